/-
  Contracts: the argument and the value of an operation, in the program and in the reference.
-/
import Derived.Test.YtnnpnljdefmmcaaPw1
namespace Go.Proofs.Ytnnpnljdefmmcaa
open Go.RowKit
attribute [local go_sem ↓] Go.wp_at_zero Go.wp_at_succ
set_option linter.unusedVariables false
set_option linter.unusedSimpArgs false

set_option maxRecDepth 100000 in
set_option maxHeartbeats 1600000 in
theorem pargument_any_2 (g : Int) (W : World) : Calls Try.prog 76 #[.agg #[.int .i64 2, .int .i64 g]] W fun e w' => e = .returned (.bool (pwArg 2 g)) ∧ Below W.heap.size W w' := by
  obtain ⟨B, hB⟩ : ∃ B, W.heap.size = B := ⟨_, rfl⟩
  have HI0 := hid (St.init hB)
  rw [show pwArg 2 g = decide (-4294967296 ≤ g ∧ g ≤ 4294967296) from rfl]
  go_enter Try.func76, Try.ntmps76
  go_upto_region 1 with fail
  have H1 := hid (show St B W [.cells B #[.int .i64 2, .int .i64 g] 60] [] (W.alloc (.cells #[.int .i64 2, .int .i64 g] 60)) from (HI0.out.alloc #[.int .i64 2, .int .i64 g] 60 hB))
  first | refine gen_code H1.out ?_ | refine gen_list H1.out ?_ | refine gen_calls H1.out ?_
  intro w2 hG
  clear H1
  have H1 := hid hG
  clear hG
  by_cases c3 : ((-4294967296) : Int) ≤ g
  · skip
    have z4 := H1.out.cell 0 rfl 0 rfl
    have z5 := H1.out.cell 0 rfl 1 rfl
    go_wp2_with fail
    clear z4 z5
    go_ret
    exact ⟨ret_b (bool_of_iff (by (try unfold shOk); simp only [decide_eq_true_eq, beq_iff_eq, Bool.false_eq_true, false_iff, true_iff, iff_false, iff_true, Bool.and_eq_true, Bool.decide_and] <;> omega)), by first | exact H1.out.below | exact H1.out.below'⟩
  · skip
    have z6 := H1.out.cell 0 rfl 0 rfl
    have z7 := H1.out.cell 0 rfl 1 rfl
    go_wp2_with fail
    clear z6 z7
    go_ret
    exact ⟨ret_b (bool_of_iff (by (try unfold shOk); simp only [decide_eq_true_eq, beq_iff_eq, Bool.false_eq_true, false_iff, true_iff, iff_false, iff_true, Bool.and_eq_true, Bool.decide_and] <;> omega)), by first | exact H1.out.below | exact H1.out.below'⟩

set_option maxRecDepth 100000 in
set_option maxHeartbeats 1600000 in
theorem pargument_any_10 (g : Int) (W : World) : Calls Try.prog 76 #[.agg #[.int .i64 10, .int .i64 g]] W fun e w' => e = .returned (.bool (pwArg 10 g)) ∧ Below W.heap.size W w' := by
  obtain ⟨B, hB⟩ : ∃ B, W.heap.size = B := ⟨_, rfl⟩
  have HI0 := hid (St.init hB)
  rw [show pwArg 10 g = shOk g from rfl]
  go_enter Try.func76, Try.ntmps76
  go_upto_region 1 with fail
  have H8 := hid (show St B W [.cells B #[.int .i64 10, .int .i64 g] 60] [] (W.alloc (.cells #[.int .i64 10, .int .i64 g] 60)) from (HI0.out.alloc #[.int .i64 10, .int .i64 g] 60 hB))
  first | refine gen_code H8.out ?_ | refine gen_list H8.out ?_ | refine gen_calls H8.out ?_
  intro w9 hG
  clear H8
  have H8 := hid hG
  clear hG
  by_cases c10 : (0 : Int) ≤ g
  · skip
    have z11 := H8.out.cell 0 rfl 0 rfl
    have z12 := H8.out.cell 0 rfl 1 rfl
    go_wp2_with fail
    clear z11 z12
    go_ret
    exact ⟨ret_b (bool_of_iff (by (try unfold shOk); simp only [decide_eq_true_eq, beq_iff_eq, Bool.false_eq_true, false_iff, true_iff, iff_false, iff_true, Bool.and_eq_true, Bool.decide_and] <;> omega)), by first | exact H8.out.below | exact H8.out.below'⟩
  · skip
    have z13 := H8.out.cell 0 rfl 0 rfl
    have z14 := H8.out.cell 0 rfl 1 rfl
    go_wp2_with fail
    clear z13 z14
    go_ret
    exact ⟨ret_b (bool_of_iff (by (try unfold shOk); simp only [decide_eq_true_eq, beq_iff_eq, Bool.false_eq_true, false_iff, true_iff, iff_false, iff_true, Bool.and_eq_true, Bool.decide_and] <;> omega)), by first | exact H8.out.below | exact H8.out.below'⟩

set_option maxRecDepth 100000 in
set_option maxHeartbeats 1600000 in
theorem pargument_any_x (c g : Int) (W : World) (hc : ¬ (c = 2) ∧ ¬ (c = 10)) : Calls Try.prog 76 #[.agg #[.int .i64 c, .int .i64 g]] W fun e w' => e = .returned (.bool (pwArg c g)) ∧ Below W.heap.size W w' := by
  obtain ⟨B, hB⟩ : ∃ B, W.heap.size = B := ⟨_, rfl⟩
  have HI0 := hid (St.init hB)
  have e1 : ((c : Int) == 2) = false := by simpa using hc.1
  have e2 : ((c : Int) == 10) = false := by simpa using hc.2
  have e3 : pwArg c g = decide (g = 0) := by unfold pwArg; rw [if_neg hc.1, if_neg hc.2]
  rw [e3]
  clear e3 hc
  go_enter Try.func76, Try.ntmps76
  go_upto_region 1 with fail
  have H15 := hid (show St B W [.cells B #[.int .i64 c, .int .i64 g] 60] [] (W.alloc (.cells #[.int .i64 c, .int .i64 g] 60)) from (HI0.out.alloc #[.int .i64 c, .int .i64 g] 60 hB))
  first | refine gen_code H15.out ?_ | refine gen_list H15.out ?_ | refine gen_calls H15.out ?_
  intro w16 hG
  clear H15
  have H15 := hid hG
  clear hG
  have z17 := H15.out.cell 0 rfl 0 rfl
  have z18 := H15.out.cell 0 rfl 1 rfl
  go_wp2_with fail
  clear z17 z18
  go_ret
  exact ⟨ret_b (bool_of_iff (by (try unfold shOk); simp only [decide_eq_true_eq, beq_iff_eq, Bool.false_eq_true, false_iff, true_iff, iff_false, iff_true, Bool.and_eq_true, Bool.decide_and] <;> omega)), by first | exact H15.out.below | exact H15.out.below'⟩
theorem pargument_any (c g : Int) (W : World) : Calls Try.prog 76 #[.agg #[.int .i64 c, .int .i64 g]] W fun e w' => e = .returned (.bool (pwArg c g)) ∧ Below W.heap.size W w' := by
  by_cases h2 : c = 2
  · subst h2; exact pargument_any_2 g W
  · by_cases h10 : c = 10
    · subst h10; exact pargument_any_10 g W
    · exact pargument_any_x c g W ⟨h2, h10⟩

set_option maxRecDepth 100000 in
set_option maxHeartbeats 1600000 in
theorem rargument_any_2 (g : Int) (W : World) : Calls Try.prog 77 #[.agg #[.int .i64 2, .int .i64 g]] W fun e w' => e = .returned (.bool (pwArg 2 g)) ∧ Below W.heap.size W w' := by
  obtain ⟨B, hB⟩ : ∃ B, W.heap.size = B := ⟨_, rfl⟩
  have HI0 := hid (St.init hB)
  rw [show pwArg 2 g = decide (-4294967296 ≤ g ∧ g ≤ 4294967296) from rfl]
  go_enter Try.func77, Try.ntmps77
  go_upto_region 1 with fail
  have H19 := hid (show St B W [.cells B #[.int .i64 2, .int .i64 g] 60] [] (W.alloc (.cells #[.int .i64 2, .int .i64 g] 60)) from (HI0.out.alloc #[.int .i64 2, .int .i64 g] 60 hB))
  first | refine gen_code H19.out ?_ | refine gen_list H19.out ?_ | refine gen_calls H19.out ?_
  intro w20 hG
  clear H19
  have H19 := hid hG
  clear hG
  by_cases c21 : ((-4294967296) : Int) ≤ g
  · skip
    have z22 := H19.out.cell 0 rfl 0 rfl
    have z23 := H19.out.cell 0 rfl 1 rfl
    go_wp2_with fail
    clear z22 z23
    go_ret
    exact ⟨ret_b (bool_of_iff (by (try unfold shOk); simp only [decide_eq_true_eq, beq_iff_eq, Bool.false_eq_true, false_iff, true_iff, iff_false, iff_true, Bool.and_eq_true, Bool.decide_and] <;> omega)), by first | exact H19.out.below | exact H19.out.below'⟩
  · skip
    have z24 := H19.out.cell 0 rfl 0 rfl
    have z25 := H19.out.cell 0 rfl 1 rfl
    go_wp2_with fail
    clear z24 z25
    go_ret
    exact ⟨ret_b (bool_of_iff (by (try unfold shOk); simp only [decide_eq_true_eq, beq_iff_eq, Bool.false_eq_true, false_iff, true_iff, iff_false, iff_true, Bool.and_eq_true, Bool.decide_and] <;> omega)), by first | exact H19.out.below | exact H19.out.below'⟩

set_option maxRecDepth 100000 in
set_option maxHeartbeats 1600000 in
theorem rargument_any_10 (g : Int) (W : World) : Calls Try.prog 77 #[.agg #[.int .i64 10, .int .i64 g]] W fun e w' => e = .returned (.bool (pwArg 10 g)) ∧ Below W.heap.size W w' := by
  obtain ⟨B, hB⟩ : ∃ B, W.heap.size = B := ⟨_, rfl⟩
  have HI0 := hid (St.init hB)
  rw [show pwArg 10 g = shOk g from rfl]
  go_enter Try.func77, Try.ntmps77
  go_upto_region 1 with fail
  have H26 := hid (show St B W [.cells B #[.int .i64 10, .int .i64 g] 60] [] (W.alloc (.cells #[.int .i64 10, .int .i64 g] 60)) from (HI0.out.alloc #[.int .i64 10, .int .i64 g] 60 hB))
  first | refine gen_code H26.out ?_ | refine gen_list H26.out ?_ | refine gen_calls H26.out ?_
  intro w27 hG
  clear H26
  have H26 := hid hG
  clear hG
  have z28 := H26.out.cell 0 rfl 0 rfl
  have z29 := H26.out.cell 0 rfl 1 rfl
  go_wp2_with fail
  clear z28 z29
  refine (rshok_any _ _).mono ?_
  rintro e w30 ⟨rfl, hsw⟩
  have hsw2 : w27 = w30 := by first | exact hsw | exact hsw.symm
  clear hsw
  subst hsw2
  obtain ⟨b31, hb31⟩ : ∃ xx', shOk g = xx' := ⟨_, rfl⟩
  rw [hb31]
  have HNb31 := hid hb31
  clear hb31
  go_wp2_with fail
  go_ret
  exact ⟨ret_b HNb31.out.symm, by first | exact H26.out.below | exact H26.out.below'⟩

set_option maxRecDepth 100000 in
set_option maxHeartbeats 1600000 in
theorem rargument_any_x (c g : Int) (W : World) (hc : ¬ (c = 2) ∧ ¬ (c = 10)) : Calls Try.prog 77 #[.agg #[.int .i64 c, .int .i64 g]] W fun e w' => e = .returned (.bool (pwArg c g)) ∧ Below W.heap.size W w' := by
  obtain ⟨B, hB⟩ : ∃ B, W.heap.size = B := ⟨_, rfl⟩
  have HI0 := hid (St.init hB)
  have e1 : ((c : Int) == 2) = false := by simpa using hc.1
  have e2 : ((c : Int) == 10) = false := by simpa using hc.2
  have e3 : pwArg c g = decide (g = 0) := by unfold pwArg; rw [if_neg hc.1, if_neg hc.2]
  rw [e3]
  clear e3 hc
  go_enter Try.func77, Try.ntmps77
  go_upto_region 1 with fail
  have H32 := hid (show St B W [.cells B #[.int .i64 c, .int .i64 g] 60] [] (W.alloc (.cells #[.int .i64 c, .int .i64 g] 60)) from (HI0.out.alloc #[.int .i64 c, .int .i64 g] 60 hB))
  first | refine gen_code H32.out ?_ | refine gen_list H32.out ?_ | refine gen_calls H32.out ?_
  intro w33 hG
  clear H32
  have H32 := hid hG
  clear hG
  have z34 := H32.out.cell 0 rfl 0 rfl
  have z35 := H32.out.cell 0 rfl 1 rfl
  go_wp2_with fail
  clear z34 z35
  go_ret
  exact ⟨ret_b (bool_of_iff (by (try unfold shOk); simp only [decide_eq_true_eq, beq_iff_eq, Bool.false_eq_true, false_iff, true_iff, iff_false, iff_true, Bool.and_eq_true, Bool.decide_and] <;> omega)), by first | exact H32.out.below | exact H32.out.below'⟩
theorem rargument_any (c g : Int) (W : World) : Calls Try.prog 77 #[.agg #[.int .i64 c, .int .i64 g]] W fun e w' => e = .returned (.bool (pwArg c g)) ∧ Below W.heap.size W w' := by
  by_cases h2 : c = 2
  · subst h2; exact rargument_any_2 g W
  · by_cases h10 : c = 10
    · subst h10; exact rargument_any_10 g W
    · exact rargument_any_x c g W ⟨h2, h10⟩

set_option maxRecDepth 100000 in
set_option maxHeartbeats 1600000 in
theorem pvalue_any_3 (g x y : Int) (W : World) (hx : accOk x = true) (hy : accOk y = true) : Calls Try.prog 122 #[.agg #[.int .i64 3, .int .i64 g], .int .i64 x, .int .i64 y] W fun e w' => (∃ v, e = .returned (.tuple #[.int .i64 v, .bool (accOk (pwVal 3 g x y 0 0))]) ∧ (accOk (pwVal 3 g x y 0 0) = true → v = pwVal 3 g x y 0 0)) ∧ Below W.heap.size W w' := by
  obtain ⟨x1, x2⟩ := accOk_iff.1 hx
  obtain ⟨y1, y2⟩ := accOk_iff.1 hy
  obtain ⟨B, hB⟩ : ∃ B, W.heap.size = B := ⟨_, rfl⟩
  have HI0 := hid (St.init hB)
  go_enter Try.func122, Try.ntmps122
  go_upto_region 1 with fail
  have H36 := hid (show St B W [.cells B #[.int .i64 3, .int .i64 g] 60] [] (W.alloc (.cells #[.int .i64 3, .int .i64 g] 60)) from (HI0.out.alloc #[.int .i64 3, .int .i64 g] 60 hB))
  first | refine gen_code H36.out ?_ | refine gen_list H36.out ?_ | refine gen_calls H36.out ?_
  intro w37 hG
  clear H36
  have H36 := hid hG
  clear hG
  have z38 := H36.out.cell 0 rfl 0 rfl
  have z39 := H36.out.cell 0 rfl 1 rfl
  go_wp2_with fail
  clear z38 z39
  refine (pwithin_any _ _).mono ?_
  rintro e w40 ⟨rfl, hsw⟩
  have hsw2 : w37 = w40 := by first | exact hsw | exact hsw.symm
  clear hsw
  subst hsw2
  obtain ⟨b41, hb41⟩ : ∃ xx', accOk (x + y) = xx' := ⟨_, rfl⟩
  rw [hb41]
  have HNb41 := hid hb41
  clear hb41
  go_wp2_with fail
  go_ret2
  exact ⟨⟨_, ret_ib rfl (by rw [← HNb41.out]; rfl), fun _ => rfl⟩, by first | exact H36.out.below | exact H36.out.below'⟩

set_option maxRecDepth 100000 in
set_option maxHeartbeats 1600000 in
theorem pvalue_any_4 (g x y : Int) (W : World) (hx : accOk x = true) (hy : accOk y = true) : Calls Try.prog 122 #[.agg #[.int .i64 4, .int .i64 g], .int .i64 x, .int .i64 y] W fun e w' => (∃ v, e = .returned (.tuple #[.int .i64 v, .bool (accOk (pwVal 4 g x y 0 0))]) ∧ (accOk (pwVal 4 g x y 0 0) = true → v = pwVal 4 g x y 0 0)) ∧ Below W.heap.size W w' := by
  obtain ⟨x1, x2⟩ := accOk_iff.1 hx
  obtain ⟨y1, y2⟩ := accOk_iff.1 hy
  obtain ⟨B, hB⟩ : ∃ B, W.heap.size = B := ⟨_, rfl⟩
  have HI0 := hid (St.init hB)
  go_enter Try.func122, Try.ntmps122
  go_upto_region 1 with fail
  have H42 := hid (show St B W [.cells B #[.int .i64 4, .int .i64 g] 60] [] (W.alloc (.cells #[.int .i64 4, .int .i64 g] 60)) from (HI0.out.alloc #[.int .i64 4, .int .i64 g] 60 hB))
  first | refine gen_code H42.out ?_ | refine gen_list H42.out ?_ | refine gen_calls H42.out ?_
  intro w43 hG
  clear H42
  have H42 := hid hG
  clear hG
  have z44 := H42.out.cell 0 rfl 0 rfl
  have z45 := H42.out.cell 0 rfl 1 rfl
  go_wp2_with fail
  clear z44 z45
  refine (pwithin_any _ _).mono ?_
  rintro e w46 ⟨rfl, hsw⟩
  have hsw2 : w43 = w46 := by first | exact hsw | exact hsw.symm
  clear hsw
  subst hsw2
  obtain ⟨b47, hb47⟩ : ∃ xx', accOk (x - y) = xx' := ⟨_, rfl⟩
  rw [hb47]
  have HNb47 := hid hb47
  clear hb47
  go_wp2_with fail
  go_ret2
  exact ⟨⟨_, ret_ib rfl (by rw [← HNb47.out]; rfl), fun _ => rfl⟩, by first | exact H42.out.below | exact H42.out.below'⟩

set_option maxRecDepth 100000 in
set_option maxHeartbeats 1600000 in
theorem pvalue_any_5 (g x y : Int) (W : World) (hx : accOk x = true) (hy : accOk y = true) : Calls Try.prog 122 #[.agg #[.int .i64 5, .int .i64 g], .int .i64 x, .int .i64 y] W fun e w' => (∃ v, e = .returned (.tuple #[.int .i64 v, .bool (accOk (pwVal 5 g x y 0 0))]) ∧ (accOk (pwVal 5 g x y 0 0) = true → v = pwVal 5 g x y 0 0)) ∧ Below W.heap.size W w' := by
  obtain ⟨x1, x2⟩ := accOk_iff.1 hx
  obtain ⟨y1, y2⟩ := accOk_iff.1 hy
  obtain ⟨B, hB⟩ : ∃ B, W.heap.size = B := ⟨_, rfl⟩
  have HI0 := hid (St.init hB)
  go_enter Try.func122, Try.ntmps122
  go_upto_region 1 with fail
  have H48 := hid (show St B W [.cells B #[.int .i64 5, .int .i64 g] 60] [] (W.alloc (.cells #[.int .i64 5, .int .i64 g] 60)) from (HI0.out.alloc #[.int .i64 5, .int .i64 g] 60 hB))
  first | refine gen_code H48.out ?_ | refine gen_list H48.out ?_ | refine gen_calls H48.out ?_
  intro w49 hG
  clear H48
  have H48 := hid hG
  clear hG
  have z50 := H48.out.cell 0 rfl 0 rfl
  have z51 := H48.out.cell 0 rfl 1 rfl
  go_wp2_with fail
  clear z50 z51
  refine (pproduct_any _ _ _ hx hy).mono ?_
  rintro e w52 ⟨rfl, hsw⟩
  have hsw2 : w49 = w52 := by first | exact hsw | exact hsw.symm
  clear hsw
  subst hsw2
  obtain ⟨b53, hb53⟩ : ∃ xx', accOk (x * y) = xx' := ⟨_, rfl⟩
  rw [hb53]
  have HNb53 := hid hb53
  clear hb53
  obtain ⟨t54, ht54⟩ : ∃ xx', (if b53 = true then x * y else 0) = xx' := ⟨_, rfl⟩
  rw [ht54]
  have HNt54 := hid (show b53 = true → t54 = x * y from fun h => by rw [← ht54, if_pos h])
  clear ht54
  cases b53 with
  | true =>
    go_wp2_with fail
    refine (pwithin_any _ _).mono ?_
    rintro e w55 ⟨rfl, hsw⟩
    have hsw2 : w49 = w55 := by first | exact hsw | exact hsw.symm
    clear hsw
    subst hsw2
    obtain ⟨b56, hb56⟩ : ∃ xx', accOk t54 = xx' := ⟨_, rfl⟩
    rw [hb56]
    have HNb56 := hid hb56
    clear hb56
    go_wp2_with fail
    go_ret2
    exact ⟨⟨_, ret_ib rfl (by rw [← HNb56.out, (show t54 = x * y from by first | exact HNt54.out rfl | exact HNt54.out trivial)]; rfl), fun h => (show t54 = x * y from by first | exact HNt54.out rfl | exact HNt54.out trivial)⟩, by first | exact H48.out.below | exact H48.out.below'⟩
  | false =>
    go_wp2_with fail
    go_ret2
    exact ⟨⟨_, ret_ib rfl HNb53.out.symm, fun h => absurd (h.symm.trans HNb53.out) (by simp)⟩, by first | exact H48.out.below | exact H48.out.below'⟩

set_option maxRecDepth 100000 in
set_option maxHeartbeats 1600000 in
theorem pvalue_any_6 (g x y : Int) (W : World) (hx : accOk x = true) (hy : accOk y = true) : Calls Try.prog 122 #[.agg #[.int .i64 6, .int .i64 g], .int .i64 x, .int .i64 y] W fun e w' => (∃ v, e = .returned (.tuple #[.int .i64 v, .bool (accOk (pwVal 6 g x y 0 0))]) ∧ (accOk (pwVal 6 g x y 0 0) = true → v = pwVal 6 g x y 0 0)) ∧ Below W.heap.size W w' := by
  obtain ⟨x1, x2⟩ := accOk_iff.1 hx
  obtain ⟨y1, y2⟩ := accOk_iff.1 hy
  obtain ⟨B, hB⟩ : ∃ B, W.heap.size = B := ⟨_, rfl⟩
  have HI0 := hid (St.init hB)
  go_enter Try.func122, Try.ntmps122
  go_upto_region 1 with fail
  have H57 := hid (show St B W [.cells B #[.int .i64 6, .int .i64 g] 60] [] (W.alloc (.cells #[.int .i64 6, .int .i64 g] 60)) from (HI0.out.alloc #[.int .i64 6, .int .i64 g] 60 hB))
  first | refine gen_code H57.out ?_ | refine gen_list H57.out ?_ | refine gen_calls H57.out ?_
  intro w58 hG
  clear H57
  have H57 := hid hG
  clear hG
  obtain ⟨m59, hm59⟩ : ∃ zz : Int, (if y < x then y else x) = zz := ⟨_, rfl⟩
  have z60 := H57.out.cell 0 rfl 0 rfl
  have z61 := H57.out.cell 0 rfl 1 rfl
  go_wp2_with fail
  clear z60 z61
  have HNm59 := hid hm59
  clear hm59
  refine (pwithin_any _ _).mono ?_
  rintro e w62 ⟨rfl, hsw⟩
  have hsw2 : w58 = w62 := by first | exact hsw | exact hsw.symm
  clear hsw
  subst hsw2
  obtain ⟨b63, hb63⟩ : ∃ xx', accOk m59 = xx' := ⟨_, rfl⟩
  rw [hb63]
  have HNb63 := hid hb63
  clear hb63
  go_wp2_with fail
  go_ret2
  exact ⟨⟨_, ret_ib rfl (by rw [← HNb63.out, ← HNm59.out]; rfl), fun _ => HNm59.out.symm⟩, by first | exact H57.out.below | exact H57.out.below'⟩

set_option maxRecDepth 100000 in
set_option maxHeartbeats 1600000 in
theorem pvalue_any_7 (g x y : Int) (W : World) (hx : accOk x = true) (hy : accOk y = true) : Calls Try.prog 122 #[.agg #[.int .i64 7, .int .i64 g], .int .i64 x, .int .i64 y] W fun e w' => (∃ v, e = .returned (.tuple #[.int .i64 v, .bool (accOk (pwVal 7 g x y 0 0))]) ∧ (accOk (pwVal 7 g x y 0 0) = true → v = pwVal 7 g x y 0 0)) ∧ Below W.heap.size W w' := by
  obtain ⟨x1, x2⟩ := accOk_iff.1 hx
  obtain ⟨y1, y2⟩ := accOk_iff.1 hy
  obtain ⟨B, hB⟩ : ∃ B, W.heap.size = B := ⟨_, rfl⟩
  have HI0 := hid (St.init hB)
  go_enter Try.func122, Try.ntmps122
  go_upto_region 1 with fail
  have H64 := hid (show St B W [.cells B #[.int .i64 7, .int .i64 g] 60] [] (W.alloc (.cells #[.int .i64 7, .int .i64 g] 60)) from (HI0.out.alloc #[.int .i64 7, .int .i64 g] 60 hB))
  first | refine gen_code H64.out ?_ | refine gen_list H64.out ?_ | refine gen_calls H64.out ?_
  intro w65 hG
  clear H64
  have H64 := hid hG
  clear hG
  obtain ⟨m66, hm66⟩ : ∃ zz : Int, (if x < y then y else x) = zz := ⟨_, rfl⟩
  have z67 := H64.out.cell 0 rfl 0 rfl
  have z68 := H64.out.cell 0 rfl 1 rfl
  go_wp2_with fail
  clear z67 z68
  have HNm66 := hid hm66
  clear hm66
  refine (pwithin_any _ _).mono ?_
  rintro e w69 ⟨rfl, hsw⟩
  have hsw2 : w65 = w69 := by first | exact hsw | exact hsw.symm
  clear hsw
  subst hsw2
  obtain ⟨b70, hb70⟩ : ∃ xx', accOk m66 = xx' := ⟨_, rfl⟩
  rw [hb70]
  have HNb70 := hid hb70
  clear hb70
  go_wp2_with fail
  go_ret2
  exact ⟨⟨_, ret_ib rfl (by rw [← HNb70.out, ← HNm66.out]; rfl), fun _ => HNm66.out.symm⟩, by first | exact H64.out.below | exact H64.out.below'⟩

set_option maxRecDepth 100000 in
set_option maxHeartbeats 1600000 in
theorem pvalue_any_8 (g x y : Int) (W : World) (hx : accOk x = true) (hy : accOk y = true) : Calls Try.prog 122 #[.agg #[.int .i64 8, .int .i64 g], .int .i64 x, .int .i64 y] W fun e w' => (∃ v, e = .returned (.tuple #[.int .i64 v, .bool (accOk (pwVal 8 g x y 0 0))]) ∧ (accOk (pwVal 8 g x y 0 0) = true → v = pwVal 8 g x y 0 0)) ∧ Below W.heap.size W w' := by
  obtain ⟨x1, x2⟩ := accOk_iff.1 hx
  obtain ⟨y1, y2⟩ := accOk_iff.1 hy
  obtain ⟨B, hB⟩ : ∃ B, W.heap.size = B := ⟨_, rfl⟩
  have HI0 := hid (St.init hB)
  go_enter Try.func122, Try.ntmps122
  go_upto_region 1 with fail
  have H71 := hid (show St B W [.cells B #[.int .i64 8, .int .i64 g] 60] [] (W.alloc (.cells #[.int .i64 8, .int .i64 g] 60)) from (HI0.out.alloc #[.int .i64 8, .int .i64 g] 60 hB))
  first | refine gen_code H71.out ?_ | refine gen_list H71.out ?_ | refine gen_calls H71.out ?_
  intro w72 hG
  clear H71
  have H71 := hid hG
  clear hG
  have z73 := H71.out.cell 0 rfl 0 rfl
  have z74 := H71.out.cell 0 rfl 1 rfl
  go_wp2_with fail
  clear z73 z74
  refine (pabs_any _ (by omega) _).mono ?_
  rintro e w75 ⟨rfl, hsw⟩
  have hsw2 : w72 = w75 := by first | exact hsw | exact hsw.symm
  clear hsw
  subst hsw2
  obtain ⟨t76, ht76⟩ : ∃ xx', absI (x - y) = xx' := ⟨_, rfl⟩
  rw [ht76]
  have HNt76 := hid ht76
  clear ht76
  go_wp2_with fail
  refine (pwithin_any _ _).mono ?_
  rintro e w77 ⟨rfl, hsw⟩
  have hsw2 : w72 = w77 := by first | exact hsw | exact hsw.symm
  clear hsw
  subst hsw2
  obtain ⟨b78, hb78⟩ : ∃ xx', accOk t76 = xx' := ⟨_, rfl⟩
  rw [hb78]
  have HNb78 := hid hb78
  clear hb78
  go_wp2_with fail
  go_ret2
  exact ⟨⟨_, ret_ib rfl (by rw [← HNb78.out, ← HNt76.out]; rfl), fun _ => HNt76.out.symm⟩, by first | exact H71.out.below | exact H71.out.below'⟩

set_option maxRecDepth 100000 in
set_option maxHeartbeats 1600000 in
theorem pvalue_any_9 (g x y : Int) (W : World) (hx : accOk x = true) (hy : accOk y = true) : Calls Try.prog 122 #[.agg #[.int .i64 9, .int .i64 g], .int .i64 x, .int .i64 y] W fun e w' => (∃ v, e = .returned (.tuple #[.int .i64 v, .bool (accOk (pwVal 9 g x y 0 0))]) ∧ (accOk (pwVal 9 g x y 0 0) = true → v = pwVal 9 g x y 0 0)) ∧ Below W.heap.size W w' := by
  obtain ⟨x1, x2⟩ := accOk_iff.1 hx
  obtain ⟨y1, y2⟩ := accOk_iff.1 hy
  obtain ⟨B, hB⟩ : ∃ B, W.heap.size = B := ⟨_, rfl⟩
  have HI0 := hid (St.init hB)
  go_enter Try.func122, Try.ntmps122
  go_upto_region 1 with fail
  have H79 := hid (show St B W [.cells B #[.int .i64 9, .int .i64 g] 60] [] (W.alloc (.cells #[.int .i64 9, .int .i64 g] 60)) from (HI0.out.alloc #[.int .i64 9, .int .i64 g] 60 hB))
  first | refine gen_code H79.out ?_ | refine gen_list H79.out ?_ | refine gen_calls H79.out ?_
  intro w80 hG
  clear H79
  have H79 := hid hG
  clear hG
  have z81 := H79.out.cell 0 rfl 0 rfl
  have z82 := H79.out.cell 0 rfl 1 rfl
  go_wp2_with fail
  clear z81 z82
  refine (pquotient_any _ _ _ hx hy).mono ?_
  rintro e w83 ⟨rfl, hsw⟩
  have hsw2 : w80 = w83 := by first | exact hsw | exact hsw.symm
  clear hsw
  subst hsw2
  obtain ⟨t84, ht84⟩ : ∃ xx', Int.fdiv x y = xx' := ⟨_, rfl⟩
  rw [ht84]
  have HNt84 := hid ht84
  clear ht84
  go_wp2_with fail
  refine (pwithin_any _ _).mono ?_
  rintro e w85 ⟨rfl, hsw⟩
  have hsw2 : w80 = w85 := by first | exact hsw | exact hsw.symm
  clear hsw
  subst hsw2
  obtain ⟨b86, hb86⟩ : ∃ xx', accOk t84 = xx' := ⟨_, rfl⟩
  rw [hb86]
  have HNb86 := hid hb86
  clear hb86
  go_wp2_with fail
  go_ret2
  exact ⟨⟨_, ret_ib rfl (by rw [← HNb86.out, ← HNt84.out]; rfl), fun _ => HNt84.out.symm⟩, by first | exact H79.out.below | exact H79.out.below'⟩

set_option maxRecDepth 100000 in
set_option maxHeartbeats 1600000 in
theorem pvalue_any_10 (g x y : Int) (W : World) (hx : accOk x = true) (hy : accOk y = true) : Calls Try.prog 122 #[.agg #[.int .i64 10, .int .i64 g], .int .i64 x, .int .i64 y] W fun e w' => (∃ v, e = .returned (.tuple #[.int .i64 v, .bool (accOk (pwVal 10 g x y 0 0))]) ∧ (accOk (pwVal 10 g x y 0 0) = true → v = pwVal 10 g x y 0 0)) ∧ Below W.heap.size W w' := by
  obtain ⟨x1, x2⟩ := accOk_iff.1 hx
  obtain ⟨y1, y2⟩ := accOk_iff.1 hy
  obtain ⟨B, hB⟩ : ∃ B, W.heap.size = B := ⟨_, rfl⟩
  have HI0 := hid (St.init hB)
  go_enter Try.func122, Try.ntmps122
  go_upto_region 1 with fail
  have H87 := hid (show St B W [.cells B #[.int .i64 10, .int .i64 g] 60] [] (W.alloc (.cells #[.int .i64 10, .int .i64 g] 60)) from (HI0.out.alloc #[.int .i64 10, .int .i64 g] 60 hB))
  first | refine gen_code H87.out ?_ | refine gen_list H87.out ?_ | refine gen_calls H87.out ?_
  intro w88 hG
  clear H87
  have H87 := hid hG
  clear hG
  have z89 := H87.out.cell 0 rfl 0 rfl
  have z90 := H87.out.cell 0 rfl 1 rfl
  go_wp2_with fail
  clear z89 z90
  refine (fshift_any _ _ _).mono ?_
  rintro e w91 ⟨rfl, hsw⟩
  have hsw2 : w88 = w91 := by first | exact hsw | exact hsw.symm
  clear hsw
  subst hsw2
  obtain ⟨t92, ht92⟩ : ∃ xx', shV x g = xx' := ⟨_, rfl⟩
  rw [ht92]
  have HNt92 := hid ht92
  clear ht92
  go_wp2_with fail
  refine (pwithin_any _ _).mono ?_
  rintro e w93 ⟨rfl, hsw⟩
  have hsw2 : w88 = w93 := by first | exact hsw | exact hsw.symm
  clear hsw
  subst hsw2
  obtain ⟨b94, hb94⟩ : ∃ xx', accOk t92 = xx' := ⟨_, rfl⟩
  rw [hb94]
  have HNb94 := hid hb94
  clear hb94
  go_wp2_with fail
  go_ret2
  exact ⟨⟨_, ret_ib rfl (by rw [← HNb94.out, ← HNt92.out]; rfl), fun _ => HNt92.out.symm⟩, by first | exact H87.out.below | exact H87.out.below'⟩

set_option maxRecDepth 100000 in
set_option maxHeartbeats 1600000 in
theorem pvalue_any_11 (g x y : Int) (W : World) (hx : accOk x = true) (hy : accOk y = true) : Calls Try.prog 122 #[.agg #[.int .i64 11, .int .i64 g], .int .i64 x, .int .i64 y] W fun e w' => (∃ v, e = .returned (.tuple #[.int .i64 v, .bool (accOk (pwVal 11 g x y 0 0))]) ∧ (accOk (pwVal 11 g x y 0 0) = true → v = pwVal 11 g x y 0 0)) ∧ Below W.heap.size W w' := by
  obtain ⟨x1, x2⟩ := accOk_iff.1 hx
  obtain ⟨y1, y2⟩ := accOk_iff.1 hy
  obtain ⟨B, hB⟩ : ∃ B, W.heap.size = B := ⟨_, rfl⟩
  have HI0 := hid (St.init hB)
  go_enter Try.func122, Try.ntmps122
  go_upto_region 1 with fail
  have H95 := hid (show St B W [.cells B #[.int .i64 11, .int .i64 g] 60] [] (W.alloc (.cells #[.int .i64 11, .int .i64 g] 60)) from (HI0.out.alloc #[.int .i64 11, .int .i64 g] 60 hB))
  first | refine gen_code H95.out ?_ | refine gen_list H95.out ?_ | refine gen_calls H95.out ?_
  intro w96 hG
  clear H95
  have H95 := hid hG
  clear hG
  have z97 := H95.out.cell 0 rfl 0 rfl
  have z98 := H95.out.cell 0 rfl 1 rfl
  go_wp2_with fail
  clear z97 z98
  refine (pabs_any _ (by omega) _).mono ?_
  rintro e w99 ⟨rfl, hsw⟩
  have hsw2 : w96 = w99 := by first | exact hsw | exact hsw.symm
  clear hsw
  subst hsw2
  obtain ⟨t100, ht100⟩ : ∃ xx', absI x = xx' := ⟨_, rfl⟩
  rw [ht100]
  have HNt100 := hid ht100
  clear ht100
  go_wp2_with fail
  refine (pwithin_any _ _).mono ?_
  rintro e w101 ⟨rfl, hsw⟩
  have hsw2 : w96 = w101 := by first | exact hsw | exact hsw.symm
  clear hsw
  subst hsw2
  obtain ⟨b102, hb102⟩ : ∃ xx', accOk t100 = xx' := ⟨_, rfl⟩
  rw [hb102]
  have HNb102 := hid hb102
  clear hb102
  go_wp2_with fail
  go_ret2
  exact ⟨⟨_, ret_ib rfl (by rw [← HNb102.out, ← HNt100.out]; rfl), fun _ => HNt100.out.symm⟩, by first | exact H95.out.below | exact H95.out.below'⟩
theorem pvalue_any (c g x y : Int) (W : World) (hc : 3 ≤ c ∧ c ≤ 11) (hx : accOk x = true) (hy : accOk y = true) : Calls Try.prog 122 #[.agg #[.int .i64 c, .int .i64 g], .int .i64 x, .int .i64 y] W fun e w' => (∃ v, e = .returned (.tuple #[.int .i64 v, .bool (accOk (pwVal c g x y 0 0))]) ∧ (accOk (pwVal c g x y 0 0) = true → v = pwVal c g x y 0 0)) ∧ Below W.heap.size W w' := by
  rcases codes (c := c) (by omega) (by omega) with rfl | rfl | rfl | rfl | rfl | rfl | rfl | rfl | rfl | rfl | rfl | rfl
  · omega
  · omega
  · omega
  · exact pvalue_any_3 g x y W hx hy
  · exact pvalue_any_4 g x y W hx hy
  · exact pvalue_any_5 g x y W hx hy
  · exact pvalue_any_6 g x y W hx hy
  · exact pvalue_any_7 g x y W hx hy
  · exact pvalue_any_8 g x y W hx hy
  · exact pvalue_any_9 g x y W hx hy
  · exact pvalue_any_10 g x y W hx hy
  · exact pvalue_any_11 g x y W hx hy

set_option maxRecDepth 100000 in
set_option maxHeartbeats 1600000 in
theorem rapply_any_0 (g x y a b : Int) (W : World) (hx : accOk x = true) (hy : accOk y = true) : Calls Try.prog 75 #[.agg #[.int .i64 0, .int .i64 g], .int .i64 x, .int .i64 y, .int .i64 a, .int .i64 b] W fun e w' => (∃ v, e = .returned (.tuple #[.int .i64 v, .bool (accOk (pwVal 0 g x y a b))]) ∧ (accOk (pwVal 0 g x y a b) = true → v = pwVal 0 g x y a b)) ∧ Below W.heap.size W w' := by
  obtain ⟨x1, x2⟩ := accOk_iff.1 hx
  obtain ⟨y1, y2⟩ := accOk_iff.1 hy
  obtain ⟨B, hB⟩ : ∃ B, W.heap.size = B := ⟨_, rfl⟩
  have HI0 := hid (St.init hB)
  go_enter Try.func75, Try.ntmps75
  go_upto_region 1 with fail
  have H103 := hid (show St B W [.cells B #[.int .i64 0, .int .i64 g] 60] [] (W.alloc (.cells #[.int .i64 0, .int .i64 g] 60)) from (HI0.out.alloc #[.int .i64 0, .int .i64 g] 60 hB))
  first | refine gen_code H103.out ?_ | refine gen_list H103.out ?_ | refine gen_calls H103.out ?_
  intro w104 hG
  clear H103
  have H103 := hid hG
  clear hG
  have z105 := H103.out.cell 0 rfl 0 rfl
  have z106 := H103.out.cell 0 rfl 1 rfl
  go_wp2_with fail
  clear z105 z106
  refine (racc_any _ _).mono ?_
  rintro e w107 ⟨rfl, hsw⟩
  have hsw2 : w104 = w107 := by first | exact hsw | exact hsw.symm
  clear hsw
  subst hsw2
  obtain ⟨b108, hb108⟩ : ∃ xx', accOk a = xx' := ⟨_, rfl⟩
  rw [hb108]
  have HNb108 := hid hb108
  clear hb108
  go_wp2_with fail
  go_ret2
  exact ⟨⟨_, ret_ib rfl (by rw [← HNb108.out]; rfl), fun _ => rfl⟩, by first | exact H103.out.below | exact H103.out.below'⟩

set_option maxRecDepth 100000 in
set_option maxHeartbeats 1600000 in
theorem rapply_any_1 (g x y a b : Int) (W : World) (hx : accOk x = true) (hy : accOk y = true) : Calls Try.prog 75 #[.agg #[.int .i64 1, .int .i64 g], .int .i64 x, .int .i64 y, .int .i64 a, .int .i64 b] W fun e w' => (∃ v, e = .returned (.tuple #[.int .i64 v, .bool (accOk (pwVal 1 g x y a b))]) ∧ (accOk (pwVal 1 g x y a b) = true → v = pwVal 1 g x y a b)) ∧ Below W.heap.size W w' := by
  obtain ⟨x1, x2⟩ := accOk_iff.1 hx
  obtain ⟨y1, y2⟩ := accOk_iff.1 hy
  obtain ⟨B, hB⟩ : ∃ B, W.heap.size = B := ⟨_, rfl⟩
  have HI0 := hid (St.init hB)
  go_enter Try.func75, Try.ntmps75
  go_upto_region 1 with fail
  have H109 := hid (show St B W [.cells B #[.int .i64 1, .int .i64 g] 60] [] (W.alloc (.cells #[.int .i64 1, .int .i64 g] 60)) from (HI0.out.alloc #[.int .i64 1, .int .i64 g] 60 hB))
  first | refine gen_code H109.out ?_ | refine gen_list H109.out ?_ | refine gen_calls H109.out ?_
  intro w110 hG
  clear H109
  have H109 := hid hG
  clear hG
  have z111 := H109.out.cell 0 rfl 0 rfl
  have z112 := H109.out.cell 0 rfl 1 rfl
  go_wp2_with fail
  clear z111 z112
  refine (racc_any _ _).mono ?_
  rintro e w113 ⟨rfl, hsw⟩
  have hsw2 : w110 = w113 := by first | exact hsw | exact hsw.symm
  clear hsw
  subst hsw2
  obtain ⟨b114, hb114⟩ : ∃ xx', accOk b = xx' := ⟨_, rfl⟩
  rw [hb114]
  have HNb114 := hid hb114
  clear hb114
  go_wp2_with fail
  go_ret2
  exact ⟨⟨_, ret_ib rfl (by rw [← HNb114.out]; rfl), fun _ => rfl⟩, by first | exact H109.out.below | exact H109.out.below'⟩

set_option maxRecDepth 100000 in
set_option maxHeartbeats 1600000 in
theorem rapply_any_2 (g x y a b : Int) (W : World) (hx : accOk x = true) (hy : accOk y = true) : Calls Try.prog 75 #[.agg #[.int .i64 2, .int .i64 g], .int .i64 x, .int .i64 y, .int .i64 a, .int .i64 b] W fun e w' => (∃ v, e = .returned (.tuple #[.int .i64 v, .bool (accOk (pwVal 2 g x y a b))]) ∧ (accOk (pwVal 2 g x y a b) = true → v = pwVal 2 g x y a b)) ∧ Below W.heap.size W w' := by
  obtain ⟨x1, x2⟩ := accOk_iff.1 hx
  obtain ⟨y1, y2⟩ := accOk_iff.1 hy
  obtain ⟨B, hB⟩ : ∃ B, W.heap.size = B := ⟨_, rfl⟩
  have HI0 := hid (St.init hB)
  go_enter Try.func75, Try.ntmps75
  go_upto_region 1 with fail
  have H115 := hid (show St B W [.cells B #[.int .i64 2, .int .i64 g] 60] [] (W.alloc (.cells #[.int .i64 2, .int .i64 g] 60)) from (HI0.out.alloc #[.int .i64 2, .int .i64 g] 60 hB))
  first | refine gen_code H115.out ?_ | refine gen_list H115.out ?_ | refine gen_calls H115.out ?_
  intro w116 hG
  clear H115
  have H115 := hid hG
  clear hG
  have z117 := H115.out.cell 0 rfl 0 rfl
  have z118 := H115.out.cell 0 rfl 1 rfl
  go_wp2_with fail
  clear z117 z118
  refine (racc_any _ _).mono ?_
  rintro e w119 ⟨rfl, hsw⟩
  have hsw2 : w116 = w119 := by first | exact hsw | exact hsw.symm
  clear hsw
  subst hsw2
  obtain ⟨b120, hb120⟩ : ∃ xx', accOk g = xx' := ⟨_, rfl⟩
  rw [hb120]
  have HNb120 := hid hb120
  clear hb120
  go_wp2_with fail
  go_ret2
  exact ⟨⟨_, ret_ib rfl (by rw [← HNb120.out]; rfl), fun _ => rfl⟩, by first | exact H115.out.below | exact H115.out.below'⟩

set_option maxRecDepth 100000 in
set_option maxHeartbeats 1600000 in
theorem rapply_any_3 (g x y a b : Int) (W : World) (hx : accOk x = true) (hy : accOk y = true) : Calls Try.prog 75 #[.agg #[.int .i64 3, .int .i64 g], .int .i64 x, .int .i64 y, .int .i64 a, .int .i64 b] W fun e w' => (∃ v, e = .returned (.tuple #[.int .i64 v, .bool (accOk (pwVal 3 g x y a b))]) ∧ (accOk (pwVal 3 g x y a b) = true → v = pwVal 3 g x y a b)) ∧ Below W.heap.size W w' := by
  obtain ⟨x1, x2⟩ := accOk_iff.1 hx
  obtain ⟨y1, y2⟩ := accOk_iff.1 hy
  obtain ⟨B, hB⟩ : ∃ B, W.heap.size = B := ⟨_, rfl⟩
  have HI0 := hid (St.init hB)
  go_enter Try.func75, Try.ntmps75
  go_upto_region 1 with fail
  have H121 := hid (show St B W [.cells B #[.int .i64 3, .int .i64 g] 60] [] (W.alloc (.cells #[.int .i64 3, .int .i64 g] 60)) from (HI0.out.alloc #[.int .i64 3, .int .i64 g] 60 hB))
  first | refine gen_code H121.out ?_ | refine gen_list H121.out ?_ | refine gen_calls H121.out ?_
  intro w122 hG
  clear H121
  have H121 := hid hG
  clear hG
  have z123 := H121.out.cell 0 rfl 0 rfl
  have z124 := H121.out.cell 0 rfl 1 rfl
  go_wp2_with fail
  clear z123 z124
  refine (racc_any _ _).mono ?_
  rintro e w125 ⟨rfl, hsw⟩
  have hsw2 : w122 = w125 := by first | exact hsw | exact hsw.symm
  clear hsw
  subst hsw2
  obtain ⟨b126, hb126⟩ : ∃ xx', accOk (x + y) = xx' := ⟨_, rfl⟩
  rw [hb126]
  have HNb126 := hid hb126
  clear hb126
  go_wp2_with fail
  go_ret2
  exact ⟨⟨_, ret_ib rfl (by rw [← HNb126.out]; rfl), fun _ => rfl⟩, by first | exact H121.out.below | exact H121.out.below'⟩

set_option maxRecDepth 100000 in
set_option maxHeartbeats 1600000 in
theorem rapply_any_4 (g x y a b : Int) (W : World) (hx : accOk x = true) (hy : accOk y = true) : Calls Try.prog 75 #[.agg #[.int .i64 4, .int .i64 g], .int .i64 x, .int .i64 y, .int .i64 a, .int .i64 b] W fun e w' => (∃ v, e = .returned (.tuple #[.int .i64 v, .bool (accOk (pwVal 4 g x y a b))]) ∧ (accOk (pwVal 4 g x y a b) = true → v = pwVal 4 g x y a b)) ∧ Below W.heap.size W w' := by
  obtain ⟨x1, x2⟩ := accOk_iff.1 hx
  obtain ⟨y1, y2⟩ := accOk_iff.1 hy
  obtain ⟨B, hB⟩ : ∃ B, W.heap.size = B := ⟨_, rfl⟩
  have HI0 := hid (St.init hB)
  go_enter Try.func75, Try.ntmps75
  go_upto_region 1 with fail
  have H127 := hid (show St B W [.cells B #[.int .i64 4, .int .i64 g] 60] [] (W.alloc (.cells #[.int .i64 4, .int .i64 g] 60)) from (HI0.out.alloc #[.int .i64 4, .int .i64 g] 60 hB))
  first | refine gen_code H127.out ?_ | refine gen_list H127.out ?_ | refine gen_calls H127.out ?_
  intro w128 hG
  clear H127
  have H127 := hid hG
  clear hG
  have z129 := H127.out.cell 0 rfl 0 rfl
  have z130 := H127.out.cell 0 rfl 1 rfl
  go_wp2_with fail
  clear z129 z130
  refine (racc_any _ _).mono ?_
  rintro e w131 ⟨rfl, hsw⟩
  have hsw2 : w128 = w131 := by first | exact hsw | exact hsw.symm
  clear hsw
  subst hsw2
  obtain ⟨b132, hb132⟩ : ∃ xx', accOk (x - y) = xx' := ⟨_, rfl⟩
  rw [hb132]
  have HNb132 := hid hb132
  clear hb132
  go_wp2_with fail
  go_ret2
  exact ⟨⟨_, ret_ib rfl (by rw [← HNb132.out]; rfl), fun _ => rfl⟩, by first | exact H127.out.below | exact H127.out.below'⟩

set_option maxRecDepth 100000 in
set_option maxHeartbeats 1600000 in
theorem rapply_any_5 (g x y a b : Int) (W : World) (hx : accOk x = true) (hy : accOk y = true) : Calls Try.prog 75 #[.agg #[.int .i64 5, .int .i64 g], .int .i64 x, .int .i64 y, .int .i64 a, .int .i64 b] W fun e w' => (∃ v, e = .returned (.tuple #[.int .i64 v, .bool (accOk (pwVal 5 g x y a b))]) ∧ (accOk (pwVal 5 g x y a b) = true → v = pwVal 5 g x y a b)) ∧ Below W.heap.size W w' := by
  obtain ⟨x1, x2⟩ := accOk_iff.1 hx
  obtain ⟨y1, y2⟩ := accOk_iff.1 hy
  obtain ⟨B, hB⟩ : ∃ B, W.heap.size = B := ⟨_, rfl⟩
  have HI0 := hid (St.init hB)
  go_enter Try.func75, Try.ntmps75
  go_upto_region 1 with fail
  have H133 := hid (show St B W [.cells B #[.int .i64 5, .int .i64 g] 60] [] (W.alloc (.cells #[.int .i64 5, .int .i64 g] 60)) from (HI0.out.alloc #[.int .i64 5, .int .i64 g] 60 hB))
  first | refine gen_code H133.out ?_ | refine gen_list H133.out ?_ | refine gen_calls H133.out ?_
  intro w134 hG
  clear H133
  have H133 := hid hG
  clear hG
  have z135 := H133.out.cell 0 rfl 0 rfl
  have z136 := H133.out.cell 0 rfl 1 rfl
  go_wp2_with fail
  clear z135 z136
  refine (rtimes_any _ _ _ hx hy).mono ?_
  rintro e w137 ⟨rfl, hsw⟩
  have hsw2 : w134 = w137 := by first | exact hsw | exact hsw.symm
  clear hsw
  subst hsw2
  obtain ⟨b138, hb138⟩ : ∃ xx', accOk (x * y) = xx' := ⟨_, rfl⟩
  rw [hb138]
  have HNb138 := hid hb138
  clear hb138
  obtain ⟨t139, ht139⟩ : ∃ xx', (if b138 = true then x * y else 0) = xx' := ⟨_, rfl⟩
  rw [ht139]
  have HNt139 := hid (show b138 = true → t139 = x * y from fun h => by rw [← ht139, if_pos h])
  clear ht139
  cases b138 with
  | true =>
    go_wp2_with fail
    refine (racc_any _ _).mono ?_
    rintro e w140 ⟨rfl, hsw⟩
    have hsw2 : w134 = w140 := by first | exact hsw | exact hsw.symm
    clear hsw
    subst hsw2
    obtain ⟨b141, hb141⟩ : ∃ xx', accOk t139 = xx' := ⟨_, rfl⟩
    rw [hb141]
    have HNb141 := hid hb141
    clear hb141
    go_wp2_with fail
    go_ret2
    exact ⟨⟨_, ret_ib rfl (by rw [← HNb141.out, (show t139 = x * y from by first | exact HNt139.out rfl | exact HNt139.out trivial)]; rfl), fun h => (show t139 = x * y from by first | exact HNt139.out rfl | exact HNt139.out trivial)⟩, by first | exact H133.out.below | exact H133.out.below'⟩
  | false =>
    go_wp2_with fail
    go_ret2
    exact ⟨⟨_, ret_ib rfl HNb138.out.symm, fun h => absurd (h.symm.trans HNb138.out) (by simp)⟩, by first | exact H133.out.below | exact H133.out.below'⟩

set_option maxRecDepth 100000 in
set_option maxHeartbeats 1600000 in
theorem rapply_any_6 (g x y a b : Int) (W : World) (hx : accOk x = true) (hy : accOk y = true) : Calls Try.prog 75 #[.agg #[.int .i64 6, .int .i64 g], .int .i64 x, .int .i64 y, .int .i64 a, .int .i64 b] W fun e w' => (∃ v, e = .returned (.tuple #[.int .i64 v, .bool (accOk (pwVal 6 g x y a b))]) ∧ (accOk (pwVal 6 g x y a b) = true → v = pwVal 6 g x y a b)) ∧ Below W.heap.size W w' := by
  obtain ⟨x1, x2⟩ := accOk_iff.1 hx
  obtain ⟨y1, y2⟩ := accOk_iff.1 hy
  obtain ⟨B, hB⟩ : ∃ B, W.heap.size = B := ⟨_, rfl⟩
  have HI0 := hid (St.init hB)
  go_enter Try.func75, Try.ntmps75
  go_upto_region 1 with fail
  have H142 := hid (show St B W [.cells B #[.int .i64 6, .int .i64 g] 60] [] (W.alloc (.cells #[.int .i64 6, .int .i64 g] 60)) from (HI0.out.alloc #[.int .i64 6, .int .i64 g] 60 hB))
  first | refine gen_code H142.out ?_ | refine gen_list H142.out ?_ | refine gen_calls H142.out ?_
  intro w143 hG
  clear H142
  have H142 := hid hG
  clear hG
  obtain ⟨m144, hm144⟩ : ∃ zz : Int, (if y < x then y else x) = zz := ⟨_, rfl⟩
  have z145 := H142.out.cell 0 rfl 0 rfl
  have z146 := H142.out.cell 0 rfl 1 rfl
  go_wp2_with fail
  clear z145 z146
  have HNm144 := hid hm144
  clear hm144
  refine (racc_any _ _).mono ?_
  rintro e w147 ⟨rfl, hsw⟩
  have hsw2 : w143 = w147 := by first | exact hsw | exact hsw.symm
  clear hsw
  subst hsw2
  obtain ⟨b148, hb148⟩ : ∃ xx', accOk m144 = xx' := ⟨_, rfl⟩
  rw [hb148]
  have HNb148 := hid hb148
  clear hb148
  go_wp2_with fail
  go_ret2
  exact ⟨⟨_, ret_ib rfl (by rw [← HNb148.out, ← HNm144.out]; rfl), fun _ => HNm144.out.symm⟩, by first | exact H142.out.below | exact H142.out.below'⟩

set_option maxRecDepth 100000 in
set_option maxHeartbeats 1600000 in
theorem rapply_any_7 (g x y a b : Int) (W : World) (hx : accOk x = true) (hy : accOk y = true) : Calls Try.prog 75 #[.agg #[.int .i64 7, .int .i64 g], .int .i64 x, .int .i64 y, .int .i64 a, .int .i64 b] W fun e w' => (∃ v, e = .returned (.tuple #[.int .i64 v, .bool (accOk (pwVal 7 g x y a b))]) ∧ (accOk (pwVal 7 g x y a b) = true → v = pwVal 7 g x y a b)) ∧ Below W.heap.size W w' := by
  obtain ⟨x1, x2⟩ := accOk_iff.1 hx
  obtain ⟨y1, y2⟩ := accOk_iff.1 hy
  obtain ⟨B, hB⟩ : ∃ B, W.heap.size = B := ⟨_, rfl⟩
  have HI0 := hid (St.init hB)
  go_enter Try.func75, Try.ntmps75
  go_upto_region 1 with fail
  have H149 := hid (show St B W [.cells B #[.int .i64 7, .int .i64 g] 60] [] (W.alloc (.cells #[.int .i64 7, .int .i64 g] 60)) from (HI0.out.alloc #[.int .i64 7, .int .i64 g] 60 hB))
  first | refine gen_code H149.out ?_ | refine gen_list H149.out ?_ | refine gen_calls H149.out ?_
  intro w150 hG
  clear H149
  have H149 := hid hG
  clear hG
  obtain ⟨m151, hm151⟩ : ∃ zz : Int, (if x < y then y else x) = zz := ⟨_, rfl⟩
  have z152 := H149.out.cell 0 rfl 0 rfl
  have z153 := H149.out.cell 0 rfl 1 rfl
  go_wp2_with fail
  clear z152 z153
  have HNm151 := hid hm151
  clear hm151
  refine (racc_any _ _).mono ?_
  rintro e w154 ⟨rfl, hsw⟩
  have hsw2 : w150 = w154 := by first | exact hsw | exact hsw.symm
  clear hsw
  subst hsw2
  obtain ⟨b155, hb155⟩ : ∃ xx', accOk m151 = xx' := ⟨_, rfl⟩
  rw [hb155]
  have HNb155 := hid hb155
  clear hb155
  go_wp2_with fail
  go_ret2
  exact ⟨⟨_, ret_ib rfl (by rw [← HNb155.out, ← HNm151.out]; rfl), fun _ => HNm151.out.symm⟩, by first | exact H149.out.below | exact H149.out.below'⟩

set_option maxRecDepth 100000 in
set_option maxHeartbeats 1600000 in
theorem rapply_any_8 (g x y a b : Int) (W : World) (hx : accOk x = true) (hy : accOk y = true) : Calls Try.prog 75 #[.agg #[.int .i64 8, .int .i64 g], .int .i64 x, .int .i64 y, .int .i64 a, .int .i64 b] W fun e w' => (∃ v, e = .returned (.tuple #[.int .i64 v, .bool (accOk (pwVal 8 g x y a b))]) ∧ (accOk (pwVal 8 g x y a b) = true → v = pwVal 8 g x y a b)) ∧ Below W.heap.size W w' := by
  obtain ⟨x1, x2⟩ := accOk_iff.1 hx
  obtain ⟨y1, y2⟩ := accOk_iff.1 hy
  obtain ⟨B, hB⟩ : ∃ B, W.heap.size = B := ⟨_, rfl⟩
  have HI0 := hid (St.init hB)
  go_enter Try.func75, Try.ntmps75
  go_upto_region 1 with fail
  have H156 := hid (show St B W [.cells B #[.int .i64 8, .int .i64 g] 60] [] (W.alloc (.cells #[.int .i64 8, .int .i64 g] 60)) from (HI0.out.alloc #[.int .i64 8, .int .i64 g] 60 hB))
  first | refine gen_code H156.out ?_ | refine gen_list H156.out ?_ | refine gen_calls H156.out ?_
  intro w157 hG
  clear H156
  have H156 := hid hG
  clear hG
  have z158 := H156.out.cell 0 rfl 0 rfl
  have z159 := H156.out.cell 0 rfl 1 rfl
  go_wp2_with fail
  clear z158 z159
  refine (rabs_any _ (by omega) _).mono ?_
  rintro e w160 ⟨rfl, hsw⟩
  have hsw2 : w157 = w160 := by first | exact hsw | exact hsw.symm
  clear hsw
  subst hsw2
  obtain ⟨t161, ht161⟩ : ∃ xx', absI (x - y) = xx' := ⟨_, rfl⟩
  rw [ht161]
  have HNt161 := hid ht161
  clear ht161
  go_wp2_with fail
  refine (racc_any _ _).mono ?_
  rintro e w162 ⟨rfl, hsw⟩
  have hsw2 : w157 = w162 := by first | exact hsw | exact hsw.symm
  clear hsw
  subst hsw2
  obtain ⟨b163, hb163⟩ : ∃ xx', accOk t161 = xx' := ⟨_, rfl⟩
  rw [hb163]
  have HNb163 := hid hb163
  clear hb163
  go_wp2_with fail
  go_ret2
  exact ⟨⟨_, ret_ib rfl (by rw [← HNb163.out, ← HNt161.out]; rfl), fun _ => HNt161.out.symm⟩, by first | exact H156.out.below | exact H156.out.below'⟩

set_option maxRecDepth 100000 in
set_option maxHeartbeats 1600000 in
theorem rapply_any_9 (g x y a b : Int) (W : World) (hx : accOk x = true) (hy : accOk y = true) : Calls Try.prog 75 #[.agg #[.int .i64 9, .int .i64 g], .int .i64 x, .int .i64 y, .int .i64 a, .int .i64 b] W fun e w' => (∃ v, e = .returned (.tuple #[.int .i64 v, .bool (accOk (pwVal 9 g x y a b))]) ∧ (accOk (pwVal 9 g x y a b) = true → v = pwVal 9 g x y a b)) ∧ Below W.heap.size W w' := by
  obtain ⟨x1, x2⟩ := accOk_iff.1 hx
  obtain ⟨y1, y2⟩ := accOk_iff.1 hy
  obtain ⟨B, hB⟩ : ∃ B, W.heap.size = B := ⟨_, rfl⟩
  have HI0 := hid (St.init hB)
  go_enter Try.func75, Try.ntmps75
  go_upto_region 1 with fail
  have H164 := hid (show St B W [.cells B #[.int .i64 9, .int .i64 g] 60] [] (W.alloc (.cells #[.int .i64 9, .int .i64 g] 60)) from (HI0.out.alloc #[.int .i64 9, .int .i64 g] 60 hB))
  first | refine gen_code H164.out ?_ | refine gen_list H164.out ?_ | refine gen_calls H164.out ?_
  intro w165 hG
  clear H164
  have H164 := hid hG
  clear hG
  have z166 := H164.out.cell 0 rfl 0 rfl
  have z167 := H164.out.cell 0 rfl 1 rfl
  go_wp2_with fail
  clear z166 z167
  refine (rfloor_any _ _ _ hx hy).mono ?_
  rintro e w168 ⟨rfl, hsw⟩
  have hsw2 : w165 = w168 := by first | exact hsw | exact hsw.symm
  clear hsw
  subst hsw2
  obtain ⟨t169, ht169⟩ : ∃ xx', Int.fdiv x y = xx' := ⟨_, rfl⟩
  rw [ht169]
  have HNt169 := hid ht169
  clear ht169
  go_wp2_with fail
  refine (racc_any _ _).mono ?_
  rintro e w170 ⟨rfl, hsw⟩
  have hsw2 : w165 = w170 := by first | exact hsw | exact hsw.symm
  clear hsw
  subst hsw2
  obtain ⟨b171, hb171⟩ : ∃ xx', accOk t169 = xx' := ⟨_, rfl⟩
  rw [hb171]
  have HNb171 := hid hb171
  clear hb171
  go_wp2_with fail
  go_ret2
  exact ⟨⟨_, ret_ib rfl (by rw [← HNb171.out, ← HNt169.out]; rfl), fun _ => HNt169.out.symm⟩, by first | exact H164.out.below | exact H164.out.below'⟩

set_option maxRecDepth 100000 in
set_option maxHeartbeats 1600000 in
theorem rapply_any_10 (g x y a b : Int) (W : World) (hx : accOk x = true) (hy : accOk y = true) : Calls Try.prog 75 #[.agg #[.int .i64 10, .int .i64 g], .int .i64 x, .int .i64 y, .int .i64 a, .int .i64 b] W fun e w' => (∃ v, e = .returned (.tuple #[.int .i64 v, .bool (accOk (pwVal 10 g x y a b))]) ∧ (accOk (pwVal 10 g x y a b) = true → v = pwVal 10 g x y a b)) ∧ Below W.heap.size W w' := by
  obtain ⟨x1, x2⟩ := accOk_iff.1 hx
  obtain ⟨y1, y2⟩ := accOk_iff.1 hy
  obtain ⟨B, hB⟩ : ∃ B, W.heap.size = B := ⟨_, rfl⟩
  have HI0 := hid (St.init hB)
  go_enter Try.func75, Try.ntmps75
  go_upto_region 1 with fail
  have H172 := hid (show St B W [.cells B #[.int .i64 10, .int .i64 g] 60] [] (W.alloc (.cells #[.int .i64 10, .int .i64 g] 60)) from (HI0.out.alloc #[.int .i64 10, .int .i64 g] 60 hB))
  first | refine gen_code H172.out ?_ | refine gen_list H172.out ?_ | refine gen_calls H172.out ?_
  intro w173 hG
  clear H172
  have H172 := hid hG
  clear hG
  have z174 := H172.out.cell 0 rfl 0 rfl
  have z175 := H172.out.cell 0 rfl 1 rfl
  go_wp2_with fail
  clear z174 z175
  refine (rshift_any _ _ _).mono ?_
  rintro e w176 ⟨rfl, hsw⟩
  have hsw2 : w173 = w176 := by first | exact hsw | exact hsw.symm
  clear hsw
  subst hsw2
  obtain ⟨t177, ht177⟩ : ∃ xx', shV x g = xx' := ⟨_, rfl⟩
  rw [ht177]
  have HNt177 := hid ht177
  clear ht177
  go_wp2_with fail
  refine (racc_any _ _).mono ?_
  rintro e w178 ⟨rfl, hsw⟩
  have hsw2 : w173 = w178 := by first | exact hsw | exact hsw.symm
  clear hsw
  subst hsw2
  obtain ⟨b179, hb179⟩ : ∃ xx', accOk t177 = xx' := ⟨_, rfl⟩
  rw [hb179]
  have HNb179 := hid hb179
  clear hb179
  go_wp2_with fail
  go_ret2
  exact ⟨⟨_, ret_ib rfl (by rw [← HNb179.out, ← HNt177.out]; rfl), fun _ => HNt177.out.symm⟩, by first | exact H172.out.below | exact H172.out.below'⟩

set_option maxRecDepth 100000 in
set_option maxHeartbeats 1600000 in
theorem rapply_any_11 (g x y a b : Int) (W : World) (hx : accOk x = true) (hy : accOk y = true) : Calls Try.prog 75 #[.agg #[.int .i64 11, .int .i64 g], .int .i64 x, .int .i64 y, .int .i64 a, .int .i64 b] W fun e w' => (∃ v, e = .returned (.tuple #[.int .i64 v, .bool (accOk (pwVal 11 g x y a b))]) ∧ (accOk (pwVal 11 g x y a b) = true → v = pwVal 11 g x y a b)) ∧ Below W.heap.size W w' := by
  obtain ⟨x1, x2⟩ := accOk_iff.1 hx
  obtain ⟨y1, y2⟩ := accOk_iff.1 hy
  obtain ⟨B, hB⟩ : ∃ B, W.heap.size = B := ⟨_, rfl⟩
  have HI0 := hid (St.init hB)
  go_enter Try.func75, Try.ntmps75
  go_upto_region 1 with fail
  have H180 := hid (show St B W [.cells B #[.int .i64 11, .int .i64 g] 60] [] (W.alloc (.cells #[.int .i64 11, .int .i64 g] 60)) from (HI0.out.alloc #[.int .i64 11, .int .i64 g] 60 hB))
  first | refine gen_code H180.out ?_ | refine gen_list H180.out ?_ | refine gen_calls H180.out ?_
  intro w181 hG
  clear H180
  have H180 := hid hG
  clear hG
  have z182 := H180.out.cell 0 rfl 0 rfl
  have z183 := H180.out.cell 0 rfl 1 rfl
  go_wp2_with fail
  clear z182 z183
  refine (rabs_any _ (by omega) _).mono ?_
  rintro e w184 ⟨rfl, hsw⟩
  have hsw2 : w181 = w184 := by first | exact hsw | exact hsw.symm
  clear hsw
  subst hsw2
  obtain ⟨t185, ht185⟩ : ∃ xx', absI x = xx' := ⟨_, rfl⟩
  rw [ht185]
  have HNt185 := hid ht185
  clear ht185
  go_wp2_with fail
  refine (racc_any _ _).mono ?_
  rintro e w186 ⟨rfl, hsw⟩
  have hsw2 : w181 = w186 := by first | exact hsw | exact hsw.symm
  clear hsw
  subst hsw2
  obtain ⟨b187, hb187⟩ : ∃ xx', accOk t185 = xx' := ⟨_, rfl⟩
  rw [hb187]
  have HNb187 := hid hb187
  clear hb187
  go_wp2_with fail
  go_ret2
  exact ⟨⟨_, ret_ib rfl (by rw [← HNb187.out, ← HNt185.out]; rfl), fun _ => HNt185.out.symm⟩, by first | exact H180.out.below | exact H180.out.below'⟩
theorem rapply_any (c g x y a b : Int) (W : World) (hc : 0 ≤ c ∧ c ≤ 11) (hx : accOk x = true) (hy : accOk y = true) : Calls Try.prog 75 #[.agg #[.int .i64 c, .int .i64 g], .int .i64 x, .int .i64 y, .int .i64 a, .int .i64 b] W fun e w' => (∃ v, e = .returned (.tuple #[.int .i64 v, .bool (accOk (pwVal c g x y a b))]) ∧ (accOk (pwVal c g x y a b) = true → v = pwVal c g x y a b)) ∧ Below W.heap.size W w' := by
  rcases codes (c := c) (by omega) (by omega) with rfl | rfl | rfl | rfl | rfl | rfl | rfl | rfl | rfl | rfl | rfl | rfl
  · exact rapply_any_0 g x y a b W hx hy
  · exact rapply_any_1 g x y a b W hx hy
  · exact rapply_any_2 g x y a b W hx hy
  · exact rapply_any_3 g x y a b W hx hy
  · exact rapply_any_4 g x y a b W hx hy
  · exact rapply_any_5 g x y a b W hx hy
  · exact rapply_any_6 g x y a b W hx hy
  · exact rapply_any_7 g x y a b W hx hy
  · exact rapply_any_8 g x y a b W hx hy
  · exact rapply_any_9 g x y a b W hx hy
  · exact rapply_any_10 g x y a b W hx hy
  · exact rapply_any_11 g x y a b W hx hy
end Go.Proofs.Ytnnpnljdefmmcaa
