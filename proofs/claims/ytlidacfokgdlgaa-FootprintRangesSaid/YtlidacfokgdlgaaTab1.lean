/-
  Contracts: valid tables, in the program and in the reference.
-/
import Derived.Test.YtlidacfokgdlgaaTaps
import Derived.Test.YtlidacfokgdlgaaTabPlain
import Derived.Test.YtlidacfokgdlgaaKF
import Derived.Test.YtlidacfokgdlgaaKA
namespace Go.Proofs.Ytlidacfokgdlgaa
open Go.RowKit
attribute [local go_sem ↓] Go.wp_at_zero Go.wp_at_succ
set_option linter.unusedVariables false
set_option linter.unusedSimpArgs false

theorem St.oldCell {B : Nat} {W w : World} {l : List Ch} {rs : List Ro} (h : St B W l rs w) {b o' : Nat} {v : Value} (hc : W.cell? ⟨b, o', none⟩ = some v) : w.cell? ⟨b, o', none⟩ = some v := cell_keep h.below hc
theorem tv_bad {ts : Tbl} {n k : Int} {j : Nat} (h : ¬ (n < 1 ∨ 128 < n ∨ ts.length = 0 ∨ 128 < ts.length)) (hj : j < ts.length) (h0 : tvTo ts j = 0) (h1 : tvOne (ts.getD j (0, [])) = k) (hk : k ≠ 0) : tvCode ts n = k := by
  unfold tvCode; rw [if_neg h, tvTo_bad j hj h0 (by rw [h1]; exact hk), h1]
theorem tv_ok {ts : Tbl} {n : Int} (h : ¬ (n < 1 ∨ 128 < n ∨ ts.length = 0 ∨ 128 < ts.length)) (h0 : tvTo ts ts.length = 0) : tvCode ts n = 0 := by unfold tvCode; rw [if_neg h, h0]
theorem tv_8 {ts : Tbl} {n : Int} (h : n < 1 ∨ 128 < n ∨ ts.length = 0 ∨ 128 < ts.length) : tvCode ts n = 8 := by unfold tvCode; rw [if_pos h]
theorem one9 {p : Int × List Int} (h : p.2.length = 0 ∨ 8 < p.2.length) : tvOne p = 9 := by unfold tvOne; rw [if_pos h]
theorem one10 {p : Int × List Int} (h : ¬ (p.2.length = 0 ∨ 8 < p.2.length)) (h2 : wAll p.2 = false) : tvOne p = 10 := by unfold tvOne; rw [if_neg h, if_pos h2]
theorem one2 {p : Int × List Int} (h : ¬ (p.2.length = 0 ∨ 8 < p.2.length)) (h2 : wAll p.2 = true) (h3 : tFirst p.1 = false) : tvOne p = 2 := by unfold tvOne; rw [if_neg h, if_neg (by rw [h2]; simp), if_pos h3]
theorem one0 {p : Int × List Int} (h : ¬ (p.2.length = 0 ∨ 8 < p.2.length)) (h2 : wAll p.2 = true) (h3 : tFirst p.1 = true) : tvOne p = 0 := by unfold tvOne; rw [if_neg h, if_neg (by rw [h2]; simp), if_neg (by rw [h3]; simp)]

set_option maxHeartbeats 800000 in
theorem r8side_any (k : Int) (w : World) : Calls Try.prog 60 #[.int .i64 k] w fun e w' => e = .returned (.bool (decide (1 ≤ k ∧ k ≤ 128))) ∧ w' = w := by
  go_enter Try.func60, Try.ntmps60
  go_wp2
  all_goals (go_ret; refine ⟨ret_b (bool_of_iff ?_), rfl⟩; simp only [tFirst, decide_eq_true_eq, Bool.false_eq_true, false_iff, true_iff, Bool.and_eq_true, iff_false, iff_true] <;> omega)
end Go.Proofs.Ytlidacfokgdlgaa
