/-
  Contract: the examples of the chapter on programs for pixels.
-/
import Derived.Test.YtnnpnljdefmmcaaPw10
import Derived.Test.YtnnpnljdefmmcaaKX
namespace Go.Proofs.Ytnnpnljdefmmcaa
open Go.RowKit
attribute [local go_sem ↓] Go.wp_at_zero Go.wp_at_succ
set_option linter.unusedVariables false
set_option linter.unusedSimpArgs false

theorem St.litArr {B : Nat} {W w : World} {l : List Ch} {rs : List Ro} (h : St B W l rs w) (i : Nat) {b : Nat} {t : TypeId} (sz n : Nat) (vs : List Value) (hi : l[i]? = some (.cells b vs.toArray t)) (hl : vs.length = n * sz) (hn : n ≤ 1000000) :
    St B W (l.set i (.arr t sz (.slice (some ⟨b, 0, none⟩) n n) n vs)) rs w := by
  have hc := h.all i _ hi
  refine h.upd i hi h.since ?_ (fun _ e => .inl e) (fun _ _ _ => rfl)
  exact ⟨hl, .inr ⟨b, n, _, rfl, hc.1, hc.2, Nat.le_refl _, by unfold maxLen; omega, by simpa using hl, by rw [List.take_of_length_le (by simp; omega)]⟩⟩
theorem ownsRow_up {w : World} {B B' : Nat} {e : TypeId} {sz n : Nat} {v : Value} {vs : List Value} (h : w.ownsRow B e sz v n vs) (hB : B' ≤ B) : w.ownsRow B' e sz v n vs := by
  refine ⟨h.1, ?_⟩
  rcases h.2 with h' | ⟨g, cap, cur, e, h1, h2⟩
  · exact .inl h'
  · exact .inr ⟨g, cap, cur, e, Nat.le_trans hB h1, h2⟩
def lessL : List (Int × Int) := [(0, 0), (2, 128), (4, 0), (11, 0)]

set_option maxRecDepth 100000 in
set_option maxHeartbeats 1600000 in
theorem less_any (W : World) : Calls Try.prog 78 #[] W fun e w' => (∃ v, e = .returned v ∧ w'.ownsRow W.heap.size 60 2 v 4 (prV lessL)) ∧ Below W.heap.size W w' := by
  obtain ⟨B, hB⟩ : ∃ B, W.heap.size = B := ⟨_, rfl⟩
  have HI0 := hid (St.init hB)
  go_enter Try.func78, Try.ntmps78
  go_wp2_with fail
  have H1 := hid (show St B W [.cells B #[.int .i64 0, .int .i64 0, .int .i64 2, .int .i64 128, .int .i64 4, .int .i64 0, .int .i64 11, .int .i64 0] 60] [] (W.alloc (.cells #[.int .i64 0, .int .i64 0, .int .i64 2, .int .i64 128, .int .i64 4, .int .i64 0, .int .i64 11, .int .i64 0] 60)) from (HI0.out.alloc #[.int .i64 0, .int .i64 0, .int .i64 2, .int .i64 128, .int .i64 4, .int .i64 0, .int .i64 11, .int .i64 0] 60 hB))
  have H2 := hid (H1.out.litArr 0 2 4 (prV lessL) rfl (by decide) (by decide))
  go_ret
  exact ⟨⟨_, rfl, by rw [hB]; exact H2.out.arrE 0 rfl⟩, by first | exact H2.out.below | exact H2.out.below'⟩

set_option maxRecDepth 100000 in
set_option maxHeartbeats 3200000 in
theorem sane14 (W : World) : Calls Try.prog 39 #[] W fun e w' => e = .returned (.bool true) ∧ Below W.heap.size W w' := by
  obtain ⟨B, hB⟩ : ∃ B, W.heap.size = B := ⟨_, rfl⟩
  have HI0 := hid (St.init hB)
  go_enter Try.func39, Try.ntmps39
  go_wp2_with fail
  refine (less_any _).mono ?_
  rintro e w3 ⟨⟨v5, rfl, ho⟩, hb⟩
  have H4 := hid (HI0.out.growE hb ho)
  obtain ⟨g6, c7, hva⟩ := arr_pos ho (by decide)
  subst hva
  clear ho hb
  go_wp2_with fail
  refine (peval_any _ _ _ lessL _ _ _ (H4.out.prs 0 rfl)).mono ?_
  rintro e w8 ⟨rfl, hb⟩
  have H9 := hid (H4.out.call hb)
  clear hb
  rw [show evR lessL 100 0 = (28, 0) from by decide +kernel]
  go_wp2_with fail
  refine (less_any _).mono ?_
  rintro e w10 ⟨⟨v12, rfl, ho⟩, hb⟩
  have H11 := hid (H9.out.growE hb ho)
  obtain ⟨g13, c14, hva⟩ := arr_pos ho (by decide)
  subst hva
  clear ho hb
  go_wp2_with fail
  refine (pinterval_any _ _ _ lessL _ _ _ (H11.out.prs 0 rfl)).mono ?_
  rintro e w15 ⟨rfl, hb⟩
  have H16 := hid (H11.out.call hb)
  clear hb
  rw [show ivR lessL 255 1 = (0, 128, 0) from by decide +kernel]
  obtain ⟨D17, hD17⟩ : ∃ D, w15.heap.size = D := ⟨_, rfl⟩
  go_wp2_with fail
  have H18 := hid (show St B W [.cells D17 #[.int .i64 0, .int .i64 0, .int .i64 1, .int .i64 0, .int .i64 9, .int .i64 0] 60, .arr (60) 2 (.slice (some ⟨g13, 0, none⟩) 4 c14) 4 (prV lessL), .arr (60) 2 (.slice (some ⟨g6, 0, none⟩) 4 c7) 4 (prV lessL)] [] (w15.alloc (.cells #[.int .i64 0, .int .i64 0, .int .i64 1, .int .i64 0, .int .i64 9, .int .i64 0] 60)) from (H16.out.alloc #[.int .i64 0, .int .i64 0, .int .i64 1, .int .i64 0, .int .i64 9, .int .i64 0] 60 hD17))
  first | refine gen_code H18.out ?_ | refine gen_list H18.out ?_ | refine gen_calls H18.out ?_
  intro w19 hG
  clear H18
  have H18 := hid hG
  clear hG
  clear hD17
  refine (peval_any _ _ _ [(0, 0), (1, 0), (9, 0)] _ _ _ (H18.out.litPrs 0 [(0, 0), (1, 0), (9, 0)] rfl (by decide))).mono ?_
  rintro e w20 ⟨rfl, hb⟩
  have H21 := hid (H18.out.call hb)
  clear hb
  rw [show evR [(0, 0), (1, 0), (9, 0)] 7 0 = (0, 0) from by decide +kernel]
  go_wp2_with fail
  refine (less_any _).mono ?_
  rintro e w22 ⟨⟨v24, rfl, ho⟩, hb⟩
  have H23 := hid (H21.out.growE hb ho)
  obtain ⟨g25, c26, hva⟩ := arr_pos ho (by decide)
  subst hva
  clear ho hb
  go_wp2_with fail
  refine (pvalid_any14 _ _ _ lessL false _ (H23.out.prs 0 rfl)).mono ?_
  rintro e w27 ⟨rfl, hb⟩
  have H28 := hid (H23.out.call hb)
  clear hb
  rw [show vCode lessL false = 0 from by decide +kernel]
  go_wp2_with fail
  go_ret
  exact ⟨rfl, by first | exact H28.out.below | exact H28.out.below'⟩
end Go.Proofs.Ytnnpnljdefmmcaa
