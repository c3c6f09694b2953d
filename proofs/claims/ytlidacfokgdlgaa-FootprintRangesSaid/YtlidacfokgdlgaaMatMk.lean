/-
  Slices of slices that a call makes by make: a row laid into one, what a reader sees; rows that are filled from the left.
-/
import Derived.Test.YtlidacfokgdlgaaMatOwn
import Derived.Test.YtlidacfokgdlgaaKA
namespace Go.Proofs.Ytlidacfokgdlgaa
open Go.RowKit
set_option linter.unusedVariables false

section
variable {B : Nat} {W w w' : World} {l : List Ch} {rs : List Ro}
theorem St.madeArr (h : St B W l rs w) {D n : Nat} {vs : List Value} (hD : w.heap.size = D) (ho : w'.ownsRow B 22 1 (.slice (some ⟨D, 0, none⟩) n n) n vs) (hb : Below w.heap.size w w') : St B W (.arr 22 1 (.slice (some ⟨D, 0, none⟩) n n) n vs :: l) rs w' :=
  h.new hb (c := .arr 22 1 (.slice (some ⟨D, 0, none⟩) n n) n vs) ho (fun b e => by cases e; exact Nat.le_of_eq hD)
theorem St.storeArr (h : St B W l rs w) (i : Nat) {e : TypeId} {g n c : Nat} {vs : List Value} (hi : l[i]? = some (.arr e 1 (.slice (some ⟨g, 0, none⟩) n c) n vs)) (j : Nat) (u : Value) :
    St B W (l.set i (.arr e 1 (.slice (some ⟨g, 0, none⟩) n c) n (vs.set j u))) rs (w.setCell ⟨g, j, none⟩ u) := by
  have ho : w.ownsRow B e 1 (.slice (some ⟨g, 0, none⟩) n c) n vs := h.all i _ hi
  have hs := World.ownsRow.stored ho j u
  have hb : B ≤ g := (World.ownsRow.lt ho g rfl).1
  exact h.upd i hi (h.since.set hb u) hs.1 (fun _ e => .inl e) (fun k hlt hk => hs.2.block k hlt (fun e => hk e.symm))
theorem St.arrAt (h : St B W l rs w) (i : Nat) {e : TypeId} {g n c : Nat} {vs : List Value} (hi : l[i]? = some (.arr e 1 (.slice (some ⟨g, 0, none⟩) n c) n vs)) {j : Nat} {u : Value} (hj : j < n) (hv : vs[j]? = some u) : w.cell? ⟨g, j, none⟩ = some u ∧ w.frozen? ⟨g, j, none⟩ = false := by
  have ho : w.ownsRow B e 1 (.slice (some ⟨g, 0, none⟩) n c) n vs := h.all i _ hi
  exact ⟨by rw [World.ownsRow.cellAt ho j (by omega)]; exact hv, World.ownsRow.frozenAt ho j⟩
theorem gen_rcode {P : Program} {c : Code} {Q : Exit → Act → World → Prop} {a : Act} (h : St B W l rs w) (k : ∀ w', St B W l rs w' → c.wp P Q a w') : c.wp P Q a w := k w h
end
/-- A row that is filled from the left. -/
def partL (g : Nat → Int) (j N : Nat) : List Int := (List.range j).map g ++ List.replicate (N - j) 0
theorem partL_len (g : Nat → Int) {j N : Nat} (h : j ≤ N) : (partL g j N).length = N := by simp [partL]; omega
theorem partL_zero (g : Nat → Int) (N : Nat) : partL g 0 N = List.replicate N 0 := by simp [partL]
theorem partL_all (g : Nat → Int) (N : Nat) : partL g N N = (List.range N).map g := by simp [partL]
theorem partL_next (g : Nat → Int) {j N : Nat} (h : j < N) : (partL g j N).set j (g j) = partL g (j + 1) N := by
  unfold partL
  obtain ⟨m, hm⟩ : ∃ m, N - j = m + 1 := ⟨N - j - 1, by omega⟩
  rw [List.set_append_right _ _ (by simp), hm, List.replicate_succ]
  simp only [List.length_map, List.length_range, Nat.sub_self, List.set_cons_zero]
  rw [show N - (j + 1) = m by omega, List.range_succ, List.map_append, List.append_assoc]
  rfl
theorem rangeMap_getD (g : Nat → Int) {N i : Nat} (h : i < N) : ((List.range N).map g).getD i 0 = g i := by
  rw [List.getD_eq_getElem?_getD, List.getElem?_map, List.getElem?_range h]; rfl
/-- The rows that are laid, and nil behind them. -/
def rowsAt (rs : List Ro) (M : Nat) : List Value := rowVals rs ++ List.replicate (M - rs.length) (.slice none 0 0)
theorem rowsAt_len {rs : List Ro} {M : Nat} (h : rs.length ≤ M) : (rowsAt rs M).length = M := by simp [rowsAt, rowVals_len]; omega
theorem rowsAt_next {rs : List Ro} {M : Nat} (r : Ro) (h : rs.length < M) : (rowsAt rs M).set rs.length r.val = rowsAt (r :: rs) M := by
  unfold rowsAt
  obtain ⟨m, hm⟩ : ∃ m, M - rs.length = m + 1 := ⟨M - rs.length - 1, by omega⟩
  rw [List.set_append_right _ _ (by rw [rowVals_len]; exact Nat.le_refl _), rowVals_len, hm, List.replicate_succ, Nat.sub_self, List.set_cons_zero, rowVals_cons, List.append_assoc]
  simp only [List.length_cons]
  rw [show M - (rs.length + 1) = m by omega]
  rfl
theorem rowsAt_get {rs : List Ro} {M : Nat} {v : Value} (h : rs.length < M) : ((rowsAt rs M).set rs.length v)[rs.length]? = some v := by
  rw [List.getElem?_set_self (by rw [rowsAt_len (by omega)]; exact h)]
theorem rowsAt_all {rs : List Ro} {M : Nat} (h : rs.length = M) : rowsAt rs M = rowVals rs := by simp [rowsAt, h]
end Go.Proofs.Ytlidacfokgdlgaa
