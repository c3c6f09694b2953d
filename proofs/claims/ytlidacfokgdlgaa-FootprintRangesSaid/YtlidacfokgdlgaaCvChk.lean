/-
  Contracts: the errors of kernels, in the program and in the reference.
-/
import Derived.Test.YtlidacfokgdlgaaCvPlain
import Derived.Test.YtlidacfokgdlgaaKF
namespace Go.Proofs.Ytlidacfokgdlgaa
open Go.RowKit
attribute [local go_sem ↓] Go.wp_at_zero Go.wp_at_succ
set_option linter.unusedVariables false
set_option linter.unusedSimpArgs false

set_option maxHeartbeats 800000 in
theorem rside_any (v : Int) (w : World) : Calls Try.prog 57 #[.int .i64 v] w fun e w' => e = .returned (.bool (sideOk v)) ∧ w' = w := by
  go_enter Try.func57, Try.ntmps57
  go_wp2
  all_goals (go_ret; refine ⟨ret_b (bool_of_iff ?_), rfl⟩; simp only [sideOk, valOk, decide_eq_true_eq, Bool.false_eq_true, false_iff, true_iff, Bool.and_eq_true, iff_false, iff_true] <;> omega)
end Go.Proofs.Ytlidacfokgdlgaa
