/-
  Tables that callees made, in the walks of laws.
-/
import Derived.Test.YtaefdkinpaonkaaTaps
namespace Go.Proofs.Ytaefdkinpaonkaa
open Go.RowKit
set_option linter.unusedVariables false

theorem TQ.more {B : Nat} {rs : List Ro} {tp : List (Int × Ro)} (h : TQ B rs tp) (rs' : List Ro) : TQ B (rs' ++ rs) tp := fun p hp => ⟨List.mem_append_right _ (h p hp).1, (h p hp).2⟩
section
variable {B : Nat} {W w w' : World} {l : List Ch} {rs : List Ro}
/-- A tap of a table that the call owns. -/
theorem St.tapAt (h : St B W l rs w) (i : Nat) {e : TypeId} {g n c : Nat} {tp : List (Int × Ro)} {ts : List (Int × List Int)} (hi : l[i]? = some (.arr e 2 (.slice (some ⟨g, 0, none⟩) n c) n (tapV tp))) (hq : TQ B rs tp) (hd : tapD tp = ts) {j : Nat} (hj : j < n) :
    ∃ ra rn rc, w.cell? ⟨g, j * 2, none⟩ = some (.int .i64 (ts.getD j (0, [])).1) ∧ w.cell? ⟨g, j * 2 + 1, none⟩ = some (.slice ra rn rc) ∧ Slc w ra rn rc (ts.getD j (0, [])).2 := by
  have ht := h.taps i hi hq
  rw [hd] at ht
  obtain ⟨ra, rn, rc, h1, h2, h3⟩ := ht.row hj
  rw [Nat.zero_add] at h1 h2
  exact ⟨ra, rn, rc, h1, h2, h3⟩
/-- A table that a callee made, its rows among all frozen ones. -/
theorem St.addT' (h : St B W l rs w) (hb : Below w.heap.size w w') {v : Value} {ts : List (Int × List Int)} (ho : OwnT w.heap.size w' v ts) :
    ∃ tp R a c, v = .slice a ts.length c ∧ tapD tp = ts ∧ TQ B R tp ∧ (∀ tp', TQ B rs tp' → TQ B R tp') ∧ St B W (.arr 32 2 (.slice a ts.length c) ts.length (tapV tp) :: l) R w' := by
  obtain ⟨a, c, rfl, _⟩ := ho.read
  obtain ⟨tp, h1, h2, h3⟩ := h.addT hb ho
  have e : tp.length = ts.length := by rw [← h1, tapD_len]
  rw [e] at h3
  exact ⟨tp, _, a, c, rfl, h1, h2, fun tp' h => h.more _, h3⟩
theorem St.noRo (h : St B W l rs w) : St B W l [] w := h.subRo fun r hr => by simp at hr
end
end Go.Proofs.Ytaefdkinpaonkaa
