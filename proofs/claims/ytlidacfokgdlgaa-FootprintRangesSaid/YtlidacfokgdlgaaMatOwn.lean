/-
  Slices of slices that a call makes: what is appended, what a reader sees.
-/
import Derived.Test.YtlidacfokgdlgaaMat
import Derived.Test.YtlidacfokgdlgaaKA
namespace Go.Proofs.Ytlidacfokgdlgaa
open Go.RowKit

theorem info_row : (Try.prog.info? 22).map (fun i => (i.zero, i.size, i.bytes)) = some (some (.slice none 0 0), 1, 24) := by kernel_rfl

def Ro.val (r : Ro) : Value := .slice r.a r.n r.c
/-- The slice v owns the rows rs (the last first). -/
def rowVals (rs : List Ro) : List Value := (rs.map Ro.val).reverse
def rowLists (rs : List Ro) : List (List Int) := (rs.map Ro.zs).reverse
theorem rowVals_cons (r : Ro) (rs : List Ro) : rowVals (r :: rs) = rowVals rs ++ [r.val] := by simp [rowVals]
theorem rowLists_cons (r : Ro) (rs : List Ro) : rowLists (r :: rs) = rowLists rs ++ [r.zs] := by simp [rowLists]
theorem rowVals_len (rs : List Ro) : (rowVals rs).length = rs.length := by simp [rowVals]

section
variable {B : Nat} {W w w' : World} {l : List Ch} {rs : List Ro}
theorem St.arrNil (h : St B W l rs w) : St B W (.arr 22 1 (.slice none 0 0) 0 [] :: l) rs w :=
  h.new (Below.refl _ _) (c := .arr 22 1 (.slice none 0 0) 0 []) (World.ownsRow_nil w B _ _) (fun b e => by cases e)
theorem St.appendArr (h : St B W l rs w) (i : Nat) {e : TypeId} {v v' : Value} {n n' : Nat} {vs vs' : List Value} (hi : l[i]? = some (.arr e 1 v n vs)) (ho : w'.ownsRow B e 1 v' n' vs') (hg : w.grownBy w' v.ownBlock) (hv : v'.ownBlock = v.ownBlock ∨ v'.ownBlock = some w.heap.size) : St B W (l.set i (.arr e 1 v' n' vs')) rs w' := by
  refine h.upd i hi (Since.mk (h.since.below.grown hg h.size (fun k hk => (Ch.bound (h.all i _ hi) hk).1)) (Nat.le_trans h.size hg.size)) ho (fun b hb => ?_) (fun k hlt hk => hg.block k hlt (fun e => hk e.symm))
  rcases hv with e | e
  · exact .inl (e.symm.trans hb)
  · right; have : some w.heap.size = some b := e.symm.trans hb; cases this; exact Nat.le_refl _
theorem St.arr (h : St B W l rs w) (i : Nat) {e : TypeId} {v : Value} {n : Nat} {vs : List Value} (hi : l[i]? = some (.arr e 1 v n vs)) : w.ownsRow B e 1 v n vs := h.all i _ hi
theorem St.arrForm3 (h : St B W l rs w) (i : Nat) {e : TypeId} {v : Value} {n : Nat} {vs : List Value} (hi : l[i]? = some (.arr e 1 v n vs)) : ∃ a n c, v = .slice a n c := by
  rcases (h.arr i hi).2 with ⟨rfl, rfl⟩ | ⟨g, c, cur, rfl, _⟩
  · exact ⟨_, _, _, rfl⟩
  · exact ⟨_, _, _, rfl⟩
/-- Rows that are only read, and a slice that owns their values: what a reader sees. -/
theorem St.mat (h : St B W l rs w) (i : Nat) {a : Option Addr} {n c : Nat} (hi : l[i]? = some (.arr 22 1 (.slice a n c) rs.length (rowVals rs))) : Mat w a n c (rowLists rs) := by
  have ho := h.arr i hi
  rcases ho.2 with ⟨e, h0⟩ | ⟨g, cap, cur, e, hb, hg, hnc, hcm, hcs, htake⟩
  · cases e
    have : rs = [] := List.eq_nil_of_length_eq_zero h0
    subst this
    exact ⟨rfl, Nat.le_refl _, by omega, .inl rfl⟩
  · cases e
    refine ⟨by simp [rowLists], hnc, by unfold maxLen at hcm; omega, .inr ⟨g, 0, rfl, fun j hj => ?_⟩⟩
    have hk : rs.length - 1 - j < rs.length := by omega
    obtain ⟨r, hr⟩ : ∃ r, rs[rs.length - 1 - j]? = some r := ⟨_, List.getElem?_eq_getElem hk⟩
    have hs := (h.ro _ r hr).1
    refine ⟨r.a, r.n, r.c, ?_, ?_⟩
    · rw [Nat.zero_add, World.ownsRow.cellAt ho j (by omega)]
      unfold rowVals
      rw [List.getElem?_reverse (by simpa using hj), List.length_map, List.getElem?_map, hr]
      rfl
    · have : (rowLists rs).getD j [] = r.zs := by
        unfold rowLists
        rw [List.getD_eq_getElem?_getD, List.getElem?_reverse (by simpa using hj), List.length_map, List.getElem?_map, hr]
        rfl
      rw [this]; exact hs
theorem St.dropRo (h : St B W l rs w) : St B W l [] w := ⟨h.hB, h.since, h.all, h.sep, fun i r hr => by simp at hr⟩
theorem St.mat' (h : St B W l rs w) (i : Nat) {a : Option Addr} {n c : Nat} (hi : l[i]? = some (.arr 22 1 (.slice a n c) rs.length (rowVals rs))) : n = rs.length ∧ Mat w a n c (rowLists rs) := by
  have hn : n = rs.length := by
    rcases (h.arr i hi).2 with ⟨e, h0⟩ | ⟨g, cap, cur, e, _⟩
    · cases e; exact h0.symm
    · cases e; rfl
  exact ⟨hn, h.mat i hi⟩
end
end Go.Proofs.Ytlidacfokgdlgaa
