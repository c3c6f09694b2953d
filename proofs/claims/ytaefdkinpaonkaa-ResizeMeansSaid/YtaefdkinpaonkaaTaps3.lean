/-
  Tables that the tape made, in the walks of laws.
-/
import Derived.Test.YtaefdkinpaonkaaTaps2
import Derived.Test.YtaefdkinpaonkaaArr2
namespace Go.Proofs.Ytaefdkinpaonkaa
open Go.RowKit
set_option linter.unusedVariables false

section
variable {B : Nat} {W w w' : World} {l : List Ch} {rs : List Ro}
/-- A table that a callee made while the tape moved. -/
theorem St.addTT (h : St B W l rs w) (h' : St B W l rs w') {v : Value} {ts : List (Int × List Int)} (ho : OwnT w.heap.size w' v ts) :
    ∃ tp R a c, v = .slice a ts.length c ∧ tapD tp = ts ∧ TQ B R tp ∧ (∀ tp', TQ B rs tp' → TQ B R tp') ∧ St B W (.arr 32 2 (.slice a ts.length c) ts.length (tapV tp) :: l) R w' := by
  obtain ⟨a, c, rfl, _⟩ := ho.read
  obtain ⟨tp, hd, ho, hs⟩ := ho
  have e : tp.length = ts.length := by rw [← hd, tapD_len]
  rw [e] at ho
  have hg := h.addE2 h' ho
  refine ⟨tp, tp.map (·.2) ++ rs, a, c, rfl, hd, fun p hp => ⟨List.mem_append_left _ (List.mem_map.2 ⟨p, hp, rfl⟩), (hs p hp).2.1.le h.size⟩, fun tp' h => h.more _, ?_⟩
  refine ⟨hg.hB, hg.since, hg.all, hg.sep, fun i r hr => ?_⟩
  have hm := List.mem_of_getElem? hr
  rcases List.mem_append.1 hm with hm | hm
  · obtain ⟨p, hp, rfl⟩ := List.mem_map.1 hm
    obtain ⟨h1, h2, h3⟩ := hs p hp
    refine ⟨h1, fun j c b hj hbk => ?_⟩
    cases j with
    | zero => simp at hj; subst hj; exact h3 b hbk
    | succ j => exact h2.far (Ch.bound (h.all j c (by simpa using hj)) hbk).2
  · exact hg.roMem hm
end
end Go.Proofs.Ytaefdkinpaonkaa
