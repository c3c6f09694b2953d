/-
 Contracts: the argument and the value of an operation, in the program and in the reference.
-/
import Derived.Test.YteejjnhlfgjlaaaPw1
namespace Go.Proofs.Yteejjnhlfgjlaaa
open Go.RowKit
attribute [local go_sem ↓] Go.wp_at_zero Go.wp_at_succ
set_option linter.unusedVariables false
set_option linter.unusedSimpArgs false

set_option maxRecDepth 100000 in
set_option maxHeartbeats 1600000 in
theorem pargument_any_2 (g : Int) (W : World) : Calls Try.prog 75 #[.agg #[.int .i64 2, .int .i64 g]] W fun e w' => e = .returned (.bool (pwArg 2 g)) ∧ Below W.heap.size W w' := by
 obtain ⟨B, hB⟩ : ∃ B, W.heap.size = B := ⟨_, rfl⟩
 have HI0 := hid (St.init hB)
 rw [show pwArg 2 g = decide (-4294967296 ≤ g ∧ g ≤ 4294967296) from rfl]
 go_enter Try.func75, Try.ntmps75
 go_upto_region 1 with fail
 have H1 := hid (HI0.out.alloc #[.int .i64 2, .int .i64 g] 57 hB)
 first | refine gen_code H1.out ?_ | refine gen_list H1.out ?_ | refine gen_calls H1.out ?_
 intro w2 hG
 clear H1
 have H1 := hid hG
 clear hG
 by_cases c3 : ((-4294967296) : Int) ≤ g
 ·
  skip
  have z4 := H1.out.cell 0 rfl 0 rfl
  have z5 := H1.out.cell 0 rfl 1 rfl
  go_wp2_with fail
  clear z4 z5
  go_ret
  exact ⟨ret_b (bool_of_iff (by (try unfold shOk); simp only [decide_eq_true_eq, beq_iff_eq, Bool.false_eq_true, false_iff, true_iff, iff_false, iff_true, Bool.and_eq_true, Bool.decide_and] <;> omega)), by first | exact H1.out.below | exact H1.out.below'⟩
 ·
  skip
  have z6 := H1.out.cell 0 rfl 0 rfl
  have z7 := H1.out.cell 0 rfl 1 rfl
  go_wp2_with fail
  clear z6 z7
  go_ret
  exact ⟨ret_b (bool_of_iff (by (try unfold shOk); simp only [decide_eq_true_eq, beq_iff_eq, Bool.false_eq_true, false_iff, true_iff, iff_false, iff_true, Bool.and_eq_true, Bool.decide_and] <;> omega)), by first | exact H1.out.below | exact H1.out.below'⟩

set_option maxRecDepth 100000 in
set_option maxHeartbeats 1600000 in
theorem pargument_any_10 (g : Int) (W : World) : Calls Try.prog 75 #[.agg #[.int .i64 10, .int .i64 g]] W fun e w' => e = .returned (.bool (pwArg 10 g)) ∧ Below W.heap.size W w' := by
 obtain ⟨B, hB⟩ : ∃ B, W.heap.size = B := ⟨_, rfl⟩
 have HI0 := hid (St.init hB)
 rw [show pwArg 10 g = shOk g from rfl]
 go_enter Try.func75, Try.ntmps75
 go_upto_region 1 with fail
 have H8 := hid (HI0.out.alloc #[.int .i64 10, .int .i64 g] 57 hB)
 first | refine gen_code H8.out ?_ | refine gen_list H8.out ?_ | refine gen_calls H8.out ?_
 intro w9 hG
 clear H8
 have H8 := hid hG
 clear hG
 by_cases c10 : (0 : Int) ≤ g
 ·
  skip
  have z11 := H8.out.cell 0 rfl 0 rfl
  have z12 := H8.out.cell 0 rfl 1 rfl
  go_wp2_with fail
  clear z11 z12
  go_ret
  exact ⟨ret_b (bool_of_iff (by (try unfold shOk); simp only [decide_eq_true_eq, beq_iff_eq, Bool.false_eq_true, false_iff, true_iff, iff_false, iff_true, Bool.and_eq_true, Bool.decide_and] <;> omega)), by first | exact H8.out.below | exact H8.out.below'⟩
 ·
  skip
  have z13 := H8.out.cell 0 rfl 0 rfl
  have z14 := H8.out.cell 0 rfl 1 rfl
  go_wp2_with fail
  clear z13 z14
  go_ret
  exact ⟨ret_b (bool_of_iff (by (try unfold shOk); simp only [decide_eq_true_eq, beq_iff_eq, Bool.false_eq_true, false_iff, true_iff, iff_false, iff_true, Bool.and_eq_true, Bool.decide_and] <;> omega)), by first | exact H8.out.below | exact H8.out.below'⟩

set_option maxRecDepth 100000 in
set_option maxHeartbeats 1600000 in
theorem pargument_any_x (c g : Int) (W : World) (hc : ¬ (c = 2) ∧ ¬ (c = 10)) : Calls Try.prog 75 #[.agg #[.int .i64 c, .int .i64 g]] W fun e w' => e = .returned (.bool (pwArg c g)) ∧ Below W.heap.size W w' := by
 obtain ⟨B, hB⟩ : ∃ B, W.heap.size = B := ⟨_, rfl⟩
 have HI0 := hid (St.init hB)
 have e1 : ((c : Int) == 2) = false := by simpa using hc.1
 have e2 : ((c : Int) == 10) = false := by simpa using hc.2
 have e3 : pwArg c g = decide (g = 0) := by unfold pwArg; rw [if_neg hc.1, if_neg hc.2]
 rw [e3]
 clear e3 hc
 go_enter Try.func75, Try.ntmps75
 go_upto_region 1 with fail
 have H15 := hid (HI0.out.alloc #[.int .i64 c, .int .i64 g] 57 hB)
 first | refine gen_code H15.out ?_ | refine gen_list H15.out ?_ | refine gen_calls H15.out ?_
 intro w16 hG
 clear H15
 have H15 := hid hG
 clear hG
 have z17 := H15.out.cell 0 rfl 0 rfl
 have z18 := H15.out.cell 0 rfl 1 rfl
 go_wp2_with fail
 clear z17 z18
 go_ret
 exact ⟨ret_b (bool_of_iff (by (try unfold shOk); simp only [decide_eq_true_eq, beq_iff_eq, Bool.false_eq_true, false_iff, true_iff, iff_false, iff_true, Bool.and_eq_true, Bool.decide_and] <;> omega)), by first | exact H15.out.below | exact H15.out.below'⟩
theorem pargument_any (c g : Int) (W : World) : Calls Try.prog 75 #[.agg #[.int .i64 c, .int .i64 g]] W fun e w' => e = .returned (.bool (pwArg c g)) ∧ Below W.heap.size W w' := by
 by_cases h2 : c = 2
 ·
  subst h2; exact pargument_any_2 g W
 ·
  by_cases h10 : c = 10
  ·
   subst h10; exact pargument_any_10 g W
  ·
   exact pargument_any_x c g W ⟨h2, h10⟩
end Go.Proofs.Yteejjnhlfgjlaaa
