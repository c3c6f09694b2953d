/-
  Rows of floating point bits that a law makes and lays into a slice: parts behind the named ones.
-/
import Derived.Test.YtgpblcddebhphaaDoorTaps3
import Derived.Test.YtgpblcddebhphaaDoorIeeeTk
import Derived.Test.YtgpblcddebhphaaDoorMatU
namespace Go.Proofs.YtgpblcddebhphaaDoor
open Go.RowKit
set_option linter.unusedVariables false

theorem info_urow : (Tryd.prog.info? 42).map (fun i => (i.zero, i.size, i.bytes)) = some (some (.slice none 0 0), 1, 24) := by kernel_rfl
def uCh (g : Nat) (us : List Int) : Ch := .arr 52 1 (.slice (some ⟨g, 0, none⟩) us.length us.length) us.length (us.map (Value.int .u64))
def uV (g : Nat) (us : List Int) : Value := .slice (some ⟨g, 0, none⟩) us.length us.length
/-- The rows: what the slice's cells name, and the parts that hold them. -/
structure UR (YV : List Value) (RL : List Ch) (L : List (List Int)) : Prop where
  lv : YV.length = L.length
  row : ∀ i, i < L.length → (L.getD i []).length ≤ 3 ∧ U64s (L.getD i []) ∧ ∃ k g : Nat, RL[k]? = some (uCh g (L.getD i [])) ∧ YV[i]? = some (uV g (L.getD i []))
theorem UR.nil : UR [] [] [] := ⟨rfl, fun i hi => by simp at hi⟩
theorem UR.push {YV : List Value} {RL : List Ch} {L : List (List Int)} (h : UR YV RL L) {g : Nat} {us : List Int} (hu : U64s us) (hl : us.length ≤ 3) : UR (YV ++ [uV g us]) (uCh g us :: RL) (L ++ [us]) := by
  refine ⟨by simp [h.lv], fun i hi => ?_⟩
  by_cases e : i < L.length
  · obtain ⟨h1, h2, k, g', h3, h4⟩ := h.row i e
    have hg : (L ++ [us]).getD i [] = L.getD i [] := by rw [List.getD_eq_getElem?_getD, List.getElem?_append_left e, ← List.getD_eq_getElem?_getD]
    rw [hg]
    exact ⟨h1, h2, k + 1, g', by simpa using h3, by rw [List.getElem?_append_left (by rw [h.lv]; exact e)]; exact h4⟩
  · have hi' : i = L.length := by simp at hi; omega
    subst hi'
    have hg : (L ++ [us]).getD L.length [] = us := by simp
    rw [hg]
    exact ⟨hl, hu, 0, g, rfl, by rw [← h.lv]; simp⟩
section
variable {B : Nat} {W w w' : World} {rs : List Ro}
/-- Parts ahead of a tail are picked; the tail stays. -/
theorem St.pickT {l0 T : List Ch} (h : St B W (l0 ++ T) rs w) {l' : List Ch} (ix : List Nat) (hl : ix.map (fun i => l0[i]?) = l'.map some) (hnd : ix.Nodup) : St B W (l' ++ T) rs w := by
  have hlen : ix.length = l'.length := by have := congrArg List.length hl; simpa using this
  have hlt : ∀ j ∈ ix, j < l0.length := fun j hj => by
    have : l0[j]? ∈ l'.map some := by rw [← hl]; exact List.mem_map.2 ⟨j, hj, rfl⟩
    obtain ⟨c, _, e⟩ := List.mem_map.1 this
    exact (List.getElem?_eq_some_iff.1 e.symm).1
  refine h.pick (ix ++ (List.range T.length).map (fun i => l0.length + i)) ?_ ?_
  · rw [List.map_append, List.map_append]
    congr 1
    · rw [← hl]
      refine List.map_congr_left fun j hj => ?_
      rw [List.getElem?_append_left (hlt j hj)]
    · rw [List.map_map]
      refine List.ext_getElem? fun i => ?_
      rw [List.getElem?_map, List.getElem?_map]
      by_cases hi : i < T.length
      · rw [List.getElem?_range hi, List.getElem?_eq_getElem hi]
        show some ((l0 ++ T)[l0.length + i]?) = some (some T[i])
        rw [List.getElem?_append_right (by omega), Nat.add_sub_cancel_left, List.getElem?_eq_getElem hi]
      · rw [List.getElem?_eq_none (by simp; omega), List.getElem?_eq_none (by omega)]; rfl
  · rw [List.nodup_append]
    refine ⟨hnd, ?_, fun a ha b hb e => ?_⟩
    · exact List.Pairwise.map _ (fun a b (h : a ≠ b) e => h (by omega)) List.nodup_range
    · subst e
      obtain ⟨i, _, e⟩ := List.mem_map.1 hb
      have := hlt _ ha
      omega
theorem St.unT {l0 T : List Ch} (h : St B W (l0 ++ T) rs w) : St B W l0 rs w := by
  have h1 := h.pick (l' := l0) (List.range l0.length) ?_ List.nodup_range
  · exact h1
  · refine List.ext_getElem? fun i => ?_
    rw [List.getElem?_map, List.getElem?_map]
    by_cases hi : i < l0.length
    · rw [List.getElem?_range hi, List.getElem?_eq_getElem hi]
      show some ((l0 ++ T)[i]?) = some (some l0[i])
      rw [List.getElem?_append_left hi, List.getElem?_eq_getElem hi]
    · rw [List.getElem?_eq_none (by simp; omega), List.getElem?_eq_none (by omega)]; rfl
theorem slu_own3 {e : TypeId} {g : Nat} {us : List Int} (h : w.ownsRow B e 1 (.slice (some ⟨g, 0, none⟩) us.length us.length) us.length (us.map (Value.int .u64))) (hl : us.length ≤ 1000000) : Slu w (some ⟨g, 0, none⟩) us.length us.length us := by
  refine Slu.lit us (fun j hj => ?_) hl
  have := World.ownsRow.cells h (g := g) rfl j (.int .u64 (us.getD j 0)) (by rw [List.getElem?_map, List.getD_eq_getElem?_getD, List.getElem?_eq_getElem hj]; rfl)
  simp only [Addr.add] at this
  split at this
  · rename_i e0; subst e0; exact this
  · rw [Nat.zero_add] at this; exact this
/-- What a reader of the slice of the rows sees. -/
theorem St.matu {l0 RL : List Ch} {YV : List Value} {L : List (List Int)} (h : St B W (l0 ++ RL) rs w) (hu : UR YV RL L) (i : Nat) {e : TypeId} {v : Value} {n : Nat} (hi : l0[i]? = some (.arr e 1 v n YV)) (hn : n = L.length) : ∃ a c, v = .slice a n c ∧ MatU w a n c L := by
  have hlt : i < l0.length := (List.getElem?_eq_some_iff.1 hi).1
  have ho : w.ownsRow B e 1 v n YV := h.all i (.arr e 1 v n YV) (by rw [List.getElem?_append_left hlt]; exact hi)
  have hall : ∀ i, U64s (L.getD i []) := fun i => by
    by_cases hi : i < L.length
    · exact (hu.row i hi).2.1
    · rw [List.getD_eq_getElem?_getD, List.getElem?_eq_none (by omega)]; exact u64s_nil
  rcases ownsRow_form ho with ⟨rfl, h0⟩ | ⟨g, c, rfl, h1, h2, _, h3⟩
  · subst h0
    exact ⟨none, 0, rfl, ⟨hn, Nat.le_refl _, by omega, hall, .inl rfl⟩⟩
  · refine ⟨_, c, rfl, ⟨hn, h1, h2, hall, .inr ⟨g, 0, rfl, fun j hj => ?_⟩⟩⟩
    obtain ⟨r1, _, k, g', r3, r4⟩ := hu.row j (by omega)
    rw [Nat.zero_add]
    refine ⟨_, _, _, h3 _ _ r4, slu_own3 (h.all (l0.length + k) (uCh g' (L.getD j [])) (by rw [List.getElem?_append_right (by omega), Nat.add_sub_cancel_left]; exact r3)) (by omega)⟩
theorem St.matu' {l0 RL : List Ch} {YV : List Value} {L : List (List Int)} (h : St B W (l0 ++ RL) rs w) (hu : UR YV RL L) (i : Nat) {e : TypeId} {a : Option Addr} {c n : Nat} (hi : l0[i]? = some (.arr e 1 (.slice a n c) n YV)) (hn : n = L.length) : MatU w a n c L := by
  obtain ⟨a', c', e, h'⟩ := h.matu hu i hi hn
  cases e; exact h'
end
end Go.Proofs.YtgpblcddebhphaaDoor
