/-
 Contract: which fields a stage may use, in the program, at the kind 4.
-/
import Derived.Test.YteejjnhlfgjlaaaStF
import Derived.Test.YteejjnhlfgjlaaaKH
namespace Go.Proofs.Yteejjnhlfgjlaaa
open Go.RowKit
attribute [local go_sem ↓] Go.wp_at_zero Go.wp_at_succ edge_eq edge_ne
set_option linter.unusedVariables false
set_option linter.unusedSimpArgs false

set_option maxRecDepth 100000 in
set_option maxHeartbeats 6400000 in
theorem sfields_4 (sa sb : Int) (bar : Bool) (ep ef kw kh : Int) (wa : Option Addr) (wn wc : Nat) (ra : Option Addr) (rn rc : Nat) (ca : Option Addr) (cn cc : Nat) (sh sh2 : Int) (xa : Option Addr) (xn xc : Nat) (ya : Option Addr) (yn yc : Nat) (bins : Int) (oa : Option Addr) (on oc : Nat) (mx : Int) (W : World) : Calls Try.prog 11 #[.agg #[.int .i64 4, .int .i64 sa, .int .i64 sb, .bool bar, .int .i64 ep, .int .i64 ef, .int .i64 kw, .int .i64 kh, .slice wa wn wc, .slice ra rn rc, .slice ca cn cc, .int .i64 sh, .int .i64 sh2, .slice xa xn xc, .slice ya yn yc, .int .i64 bins, .slice oa on oc, .int .i64 mx]] W fun e w' => e = .returned (.bool (sfOk 4 sb ep ef kw kh wn rn cn sh sh2 xn yn bins on mx)) ∧ Below W.heap.size W w' := by
 obtain ⟨B, hB⟩ : ∃ B, W.heap.size = B := ⟨_, rfl⟩
 have HI0 := hid (St.init hB)
 obtain ⟨eb, heb⟩ : ∃ x, decide (ep = 0 ∧ ef = 0) = x := ⟨_, rfl⟩
 have HEB := hid heb
 go_enter Try.func11, Try.ntmps11
 go_upto_region 1 with fail
 have H387 := hid (HI0.out.alloc #[.int .i64 4, .int .i64 sa, .int .i64 sb, .bool bar, .int .i64 ep, .int .i64 ef, .int .i64 kw, .int .i64 kh, .slice wa wn wc, .slice ra rn rc, .slice ca cn cc, .int .i64 sh, .int .i64 sh2, .slice xa xn xc, .slice ya yn yc, .int .i64 bins, .slice oa on oc, .int .i64 mx] 33 hB)
 first | refine gen_code H387.out ?_ | refine gen_list H387.out ?_ | refine gen_calls H387.out ?_
 intro w388 hG
 clear H387
 have H387 := hid hG
 clear hG
 by_cases c389 : (sb : Int) = (-1)
 ·
  obtain ⟨c389c, c389d⟩ : (sb : Int) ≤ (-1) ∧ ((-1) : Int) ≤ sb := by omega
  have c389a : ((sb : Int) == ((-1))) = true := by simpa using c389
  have c389b : ((sb : Int) != ((-1))) = false := by simpa using c389
  have c389h := hid c389
  clear c389
  obtain ⟨z390, z391, z392, z393, z394, z395, z396, z397, z398, z399, z400, z401, z402, z403, z404, z405, z406, z407⟩ := cs18 H387.out 0 rfl
  go_wp2_with fail
  clear z390 z391 z392 z393 z394 z395 z396 z397 z398 z399 z400 z401 z402 z403 z404 z405 z406 z407
  refine (edged_any _ _).mono ?_
  rintro e w408 ⟨rfl, hsw⟩
  have hsw2 : w388 = w408 := by first | exact hsw | exact hsw.symm
  clear hsw
  subst hsw2
  rw [show edOk 4 = false from by decide]
  obtain ⟨D409, hD409⟩ : ∃ D, w388.heap.size = D := ⟨_, rfl⟩
  go_wp2_with fail
  have H410 := hid (H387.out.alloc #[.int .i64 1] 3 hD409)
  first | refine gen_code H410.out ?_ | refine gen_list H410.out ?_ | refine gen_calls H410.out ?_
  intro w411 hG
  clear H410
  have H410 := hid hG
  clear hG
  clear hD409
  refine (is_any _ _ _ [1] B _ _ (H410.out.lit 0 [1] rfl (by simp)) (by decide) (hid (H410.out.cell 1 rfl 0 rfl))).mono ?_
  rintro e w412 ⟨rfl, hb⟩
  have H413 := hid (H410.out.call hb)
  clear hb
  rw [show isIn 4 [1] = false from by decide]
  obtain ⟨D414, hD414⟩ : ∃ D, w412.heap.size = D := ⟨_, rfl⟩
  go_wp2_with fail
  have H415 := hid (H413.out.alloc #[.int .i64 2] 3 hD414)
  first | refine gen_code H415.out ?_ | refine gen_list H415.out ?_ | refine gen_calls H415.out ?_
  intro w416 hG
  clear H415
  have H415 := hid hG
  clear hG
  clear hD414
  refine (is_any _ _ _ [2] B _ _ (H415.out.lit 0 [2] rfl (by simp)) (by decide) (hid (H415.out.cell 2 rfl 0 rfl))).mono ?_
  rintro e w417 ⟨rfl, hb⟩
  have H418 := hid (H415.out.call hb)
  clear hb
  rw [show isIn 4 [2] = false from by decide]
  obtain ⟨D419, hD419⟩ : ∃ D, w417.heap.size = D := ⟨_, rfl⟩
  go_wp2_with fail
  have H420 := hid (H418.out.alloc #[.int .i64 3] 3 hD419)
  first | refine gen_code H420.out ?_ | refine gen_list H420.out ?_ | refine gen_calls H420.out ?_
  intro w421 hG
  clear H420
  have H420 := hid hG
  clear hG
  clear hD419
  refine (is_any _ _ _ [3] B _ _ (H420.out.lit 0 [3] rfl (by simp)) (by decide) (hid (H420.out.cell 3 rfl 0 rfl))).mono ?_
  rintro e w422 ⟨rfl, hb⟩
  have H423 := hid (H420.out.call hb)
  clear hb
  rw [show isIn 4 [3] = false from by decide]
  obtain ⟨D424, hD424⟩ : ∃ D, w422.heap.size = D := ⟨_, rfl⟩
  go_wp2_with fail
  have H425 := hid (H423.out.alloc #[.int .i64 6] 3 hD424)
  first | refine gen_code H425.out ?_ | refine gen_list H425.out ?_ | refine gen_calls H425.out ?_
  intro w426 hG
  clear H425
  have H425 := hid hG
  clear hG
  clear hD424
  refine (is_any _ _ _ [6] B _ _ (H425.out.lit 0 [6] rfl (by simp)) (by decide) (hid (H425.out.cell 4 rfl 0 rfl))).mono ?_
  rintro e w427 ⟨rfl, hb⟩
  have H428 := hid (H425.out.call hb)
  clear hb
  rw [show isIn 4 [6] = false from by decide]
  go_upto_region 11 with fail
  first | refine wp_region_lit (wL_to ?_) | refine wp_seq (wp_region_lit (wL_to ?_))
  obtain ⟨z429, z430, z431, z432, z433, z434, z435, z436, z437, z438, z439, z440, z441, z442, z443, z444, z445, z446⟩ := cs18 H428.out 4 rfl
  iterate 5 (refine lsA ?_; try simp only [Act.put, p1, p2, p3, p4, p5, p6])
  cases eb with
  | true =>
   iterate 7 (refine lsA ?_; try simp only [Act.put, p1, p2, p3, p4, p5, p6])
   by_cases c447 : (kw : Int) = 0
   ·
    obtain ⟨c447c, c447d⟩ : (kw : Int) ≤ 0 ∧ (0 : Int) ≤ kw := by omega
    have c447a : ((kw : Int) == (0)) = true := by simpa using c447
    have c447b : ((kw : Int) != (0)) = false := by simpa using c447
    have c447h := hid c447
    clear c447
    iterate 4 (refine lsA ?_; try simp only [Act.put, p1, p2, p3, p4, p5, p6])
    by_cases c448 : (kh : Int) = 0
    ·
     obtain ⟨c448c, c448d⟩ : (kh : Int) ≤ 0 ∧ (0 : Int) ≤ kh := by omega
     have c448a : ((kh : Int) == (0)) = true := by simpa using c448
     have c448b : ((kh : Int) != (0)) = false := by simpa using c448
     have c448h := hid c448
     clear c448
     iterate 6 (refine lsA ?_; try simp only [Act.put, p1, p2, p3, p4, p5, p6])
     by_cases c449 : (wn : Int) = 0
     ·
      obtain ⟨c449c, c449d⟩ : (wn : Int) ≤ 0 ∧ (0 : Int) ≤ wn := by omega
      have c449a : ((wn : Int) == (0)) = true := by simpa using c449
      have c449b : ((wn : Int) != (0)) = false := by simpa using c449
      have c449e : (wn == 0) = true := by simp; omega
      have c449f : (wn != 0) = false := by simp; omega
      have c449h := hid c449
      clear c449
      iterate 10 (refine lsA ?_; try simp only [Act.put, p1, p2, p3, p4, p5, p6])
      by_cases c450 : (rn : Int) = 0
      ·
       obtain ⟨c450c, c450d⟩ : (rn : Int) ≤ 0 ∧ (0 : Int) ≤ rn := by omega
       have c450a : ((rn : Int) == (0)) = true := by simpa using c450
       have c450b : ((rn : Int) != (0)) = false := by simpa using c450
       have c450e : (rn == 0) = true := by simp; omega
       have c450f : (rn != 0) = false := by simp; omega
       have c450h := hid c450
       clear c450
       iterate 5 (refine lsA ?_; try simp only [Act.put, p1, p2, p3, p4, p5, p6])
       by_cases c451 : (cn : Int) = 0
       ·
        obtain ⟨c451c, c451d⟩ : (cn : Int) ≤ 0 ∧ (0 : Int) ≤ cn := by omega
        have c451a : ((cn : Int) == (0)) = true := by simpa using c451
        have c451b : ((cn : Int) != (0)) = false := by simpa using c451
        have c451e : (cn == 0) = true := by simp; omega
        have c451f : (cn != 0) = false := by simp; omega
        have c451h := hid c451
        clear c451
        iterate 9 (refine lsA ?_; try simp only [Act.put, p1, p2, p3, p4, p5, p6])
        by_cases c452 : (sh : Int) = 0
        ·
         obtain ⟨c452c, c452d⟩ : (sh : Int) ≤ 0 ∧ (0 : Int) ≤ sh := by omega
         have c452a : ((sh : Int) == (0)) = true := by simpa using c452
         have c452b : ((sh : Int) != (0)) = false := by simpa using c452
         have c452h := hid c452
         clear c452
         iterate 11 (refine lsA ?_; try simp only [Act.put, p1, p2, p3, p4, p5, p6])
         by_cases c453 : (sh2 : Int) = 0
         ·
          obtain ⟨c453c, c453d⟩ : (sh2 : Int) ≤ 0 ∧ (0 : Int) ≤ sh2 := by omega
          have c453a : ((sh2 : Int) == (0)) = true := by simpa using c453
          have c453b : ((sh2 : Int) != (0)) = false := by simpa using c453
          have c453h := hid c453
          clear c453
          iterate 9 (refine lsA ?_; try simp only [Act.put, p1, p2, p3, p4, p5, p6])
          by_cases c454 : (xn : Int) = 0
          ·
           obtain ⟨c454c, c454d⟩ : (xn : Int) ≤ 0 ∧ (0 : Int) ≤ xn := by omega
           have c454a : ((xn : Int) == (0)) = true := by simpa using c454
           have c454b : ((xn : Int) != (0)) = false := by simpa using c454
           have c454e : (xn == 0) = true := by simp; omega
           have c454f : (xn != 0) = false := by simp; omega
           have c454h := hid c454
           clear c454
           iterate 5 (refine lsA ?_; try simp only [Act.put, p1, p2, p3, p4, p5, p6])
           by_cases c455 : (yn : Int) = 0
           ·
            obtain ⟨c455c, c455d⟩ : (yn : Int) ≤ 0 ∧ (0 : Int) ≤ yn := by omega
            have c455a : ((yn : Int) == (0)) = true := by simpa using c455
            have c455b : ((yn : Int) != (0)) = false := by simpa using c455
            have c455e : (yn == 0) = true := by simp; omega
            have c455f : (yn != 0) = false := by simp; omega
            have c455h := hid c455
            clear c455
            iterate 6 (refine lsA ?_; try simp only [Act.put, p1, p2, p3, p4, p5, p6])
            obtain ⟨D456, hD456⟩ : ∃ D, w427.heap.size = D := ⟨_, rfl⟩
            refine lsB ?_
            try simp only [Act.put, p1, p2, p3, p4, p5, p6]
            have H457 := hid (H428.out.alloc #[.int .i64 4] 3 hD456)
            clear hD456
            generalize (w427.alloc (.cells #[.int .i64 4] 3)) = k458 at *
            clear z429 z430 z431 z432 z433 z434 z435 z436 z437 z438 z439 z440 z441 z442 z443 z444 z445 z446
            obtain ⟨z459, z460, z461, z462, z463, z464, z465, z466, z467, z468, z469, z470, z471, z472, z473, z474, z475, z476⟩ := cs18 H457.out 5 rfl
            refine lsC ?_
            refine (is_any _ _ _ [4] B _ _ (H457.out.lit 0 [4] rfl (by simp)) (by decide) (hid (H457.out.cell 5 rfl 0 rfl))).mono ?_
            rintro e w477 ⟨rfl, hb⟩
            have H478 := hid (H457.out.call hb)
            clear hb
            rw [show isIn 4 [4] = true from by decide]
            refine ⟨_, rfl, ?_⟩
            try simp only [Act.put, p1, p2, p3, p4, p5, p6]
            clear z459 z460 z461 z462 z463 z464 z465 z466 z467 z468 z469 z470 z471 z472 z473 z474 z475 z476
            obtain ⟨z479, z480, z481, z482, z483, z484, z485, z486, z487, z488, z489, z490, z491, z492, z493, z494, z495, z496⟩ := cs18 H478.out 5 rfl
            refine lsA ?_
            try simp only [Act.put, p1, p2, p3, p4, p5, p6]
            iterate 3 (refine lsU ?_; try simp only [Act.put, p1, p2, p3, p4, p5, p6])
            iterate 8 (refine lsA ?_; try simp only [Act.put, p1, p2, p3, p4, p5, p6])
            by_cases c497 : (on : Int) = 0
            ·
             obtain ⟨c497c, c497d⟩ : (on : Int) ≤ 0 ∧ (0 : Int) ≤ on := by omega
             have c497a : ((on : Int) == (0)) = true := by simpa using c497
             have c497b : ((on : Int) != (0)) = false := by simpa using c497
             have c497e : (on == 0) = true := by simp; omega
             have c497f : (on != 0) = false := by simp; omega
             have c497h := hid c497
             clear c497
             iterate 11 (refine lsA ?_; try simp only [Act.put, p1, p2, p3, p4, p5, p6])
             by_cases c498 : (mx : Int) = 0
             ·
              obtain ⟨c498c, c498d⟩ : (mx : Int) ≤ 0 ∧ (0 : Int) ≤ mx := by omega
              have c498a : ((mx : Int) == (0)) = true := by simpa using c498
              have c498b : ((mx : Int) != (0)) = false := by simpa using c498
              have c498h := hid c498
              clear c498
              iterate 4 (refine lsA ?_; try simp only [Act.put, p1, p2, p3, p4, p5, p6])
              refine wL_nil ?_
              clear z479 z480 z481 z482 z483 z484 z485 z486 z487 z488 z489 z490 z491 z492 z493 z494 z495 z496
              go_wp2_with fail
              have he0 := HEB.out
              try simp only [decide_eq_true_eq, decide_eq_false_iff_not] at he0
              go_ret
              exact ⟨ret_b (by unfold sfOk; have := c389h.out; have := c447h.out; have := c448h.out; have := c449h.out; have := c450h.out; have := c451h.out; have := c452h.out; have := c453h.out; have := c454h.out; have := c455h.out; have := c497h.out; have := c498h.out; exact (decide_eq_true (by omega)).symm), by first | exact H478.out.below | exact H478.out.below'⟩
             ·
              have c498a : ((mx : Int) == (0)) = false := by simpa using c498
              have c498b : ((mx : Int) != (0)) = true := by simpa using c498
              have c498h := hid c498
              clear c498
              iterate 4 (refine lsA ?_; try simp only [Act.put, p1, p2, p3, p4, p5, p6])
              refine wL_nil ?_
              clear z479 z480 z481 z482 z483 z484 z485 z486 z487 z488 z489 z490 z491 z492 z493 z494 z495 z496
              go_wp2_with fail
              have he0 := HEB.out
              try simp only [decide_eq_true_eq, decide_eq_false_iff_not] at he0
              go_ret
              exact ⟨ret_b (by unfold sfOk; have := c389h.out; have := c447h.out; have := c448h.out; have := c449h.out; have := c450h.out; have := c451h.out; have := c452h.out; have := c453h.out; have := c454h.out; have := c455h.out; have := c497h.out; have := c498h.out; exact (decide_eq_false (by omega)).symm), by first | exact H478.out.below | exact H478.out.below'⟩
            ·
             have c497a : ((on : Int) == (0)) = false := by simpa using c497
             have c497b : ((on : Int) != (0)) = true := by simpa using c497
             have c497e : (on == 0) = false := by simp; omega
             have c497f : (on != 0) = true := by simp; omega
             have c497h := hid c497
             clear c497
             iterate 4 (refine lsA ?_; try simp only [Act.put, p1, p2, p3, p4, p5, p6])
             iterate 9 (refine lsU ?_; try simp only [Act.put, p1, p2, p3, p4, p5, p6])
             iterate 2 (refine lsA ?_; try simp only [Act.put, p1, p2, p3, p4, p5, p6])
             refine wL_nil ?_
             clear z479 z480 z481 z482 z483 z484 z485 z486 z487 z488 z489 z490 z491 z492 z493 z494 z495 z496
             go_wp2_with fail
             have he0 := HEB.out
             try simp only [decide_eq_true_eq, decide_eq_false_iff_not] at he0
             go_ret
             exact ⟨ret_b (by unfold sfOk; have := c389h.out; have := c447h.out; have := c448h.out; have := c449h.out; have := c450h.out; have := c451h.out; have := c452h.out; have := c453h.out; have := c454h.out; have := c455h.out; have := c497h.out; exact (decide_eq_false (by omega)).symm), by first | exact H478.out.below | exact H478.out.below'⟩
           ·
            have c455a : ((yn : Int) == (0)) = false := by simpa using c455
            have c455b : ((yn : Int) != (0)) = true := by simpa using c455
            have c455e : (yn == 0) = false := by simp; omega
            have c455f : (yn != 0) = true := by simp; omega
            have c455h := hid c455
            clear c455
            iterate 5 (refine lsA ?_; try simp only [Act.put, p1, p2, p3, p4, p5, p6])
            iterate 8 (refine lsU ?_; try simp only [Act.put, p1, p2, p3, p4, p5, p6])
            iterate 2 (refine lsA ?_; try simp only [Act.put, p1, p2, p3, p4, p5, p6])
            iterate 7 (refine lsU ?_; try simp only [Act.put, p1, p2, p3, p4, p5, p6])
            iterate 2 (refine lsA ?_; try simp only [Act.put, p1, p2, p3, p4, p5, p6])
            iterate 9 (refine lsU ?_; try simp only [Act.put, p1, p2, p3, p4, p5, p6])
            iterate 2 (refine lsA ?_; try simp only [Act.put, p1, p2, p3, p4, p5, p6])
            refine wL_nil ?_
            clear z429 z430 z431 z432 z433 z434 z435 z436 z437 z438 z439 z440 z441 z442 z443 z444 z445 z446
            go_wp2_with fail
            have he0 := HEB.out
            try simp only [decide_eq_true_eq, decide_eq_false_iff_not] at he0
            go_ret
            exact ⟨ret_b (by unfold sfOk; have := c389h.out; have := c447h.out; have := c448h.out; have := c449h.out; have := c450h.out; have := c451h.out; have := c452h.out; have := c453h.out; have := c454h.out; have := c455h.out; exact (decide_eq_false (by omega)).symm), by first | exact H428.out.below | exact H428.out.below'⟩
          ·
           have c454a : ((xn : Int) == (0)) = false := by simpa using c454
           have c454b : ((xn : Int) != (0)) = true := by simpa using c454
           have c454e : (xn == 0) = false := by simp; omega
           have c454f : (xn != 0) = true := by simp; omega
           have c454h := hid c454
           clear c454
           iterate 2 (refine lsA ?_; try simp only [Act.put, p1, p2, p3, p4, p5, p6])
           iterate 4 (refine lsU ?_; try simp only [Act.put, p1, p2, p3, p4, p5, p6])
           iterate 4 (refine lsA ?_; try simp only [Act.put, p1, p2, p3, p4, p5, p6])
           iterate 8 (refine lsU ?_; try simp only [Act.put, p1, p2, p3, p4, p5, p6])
           iterate 2 (refine lsA ?_; try simp only [Act.put, p1, p2, p3, p4, p5, p6])
           iterate 7 (refine lsU ?_; try simp only [Act.put, p1, p2, p3, p4, p5, p6])
           iterate 2 (refine lsA ?_; try simp only [Act.put, p1, p2, p3, p4, p5, p6])
           iterate 9 (refine lsU ?_; try simp only [Act.put, p1, p2, p3, p4, p5, p6])
           iterate 2 (refine lsA ?_; try simp only [Act.put, p1, p2, p3, p4, p5, p6])
           refine wL_nil ?_
           clear z429 z430 z431 z432 z433 z434 z435 z436 z437 z438 z439 z440 z441 z442 z443 z444 z445 z446
           go_wp2_with fail
           have he0 := HEB.out
           try simp only [decide_eq_true_eq, decide_eq_false_iff_not] at he0
           go_ret
           exact ⟨ret_b (by unfold sfOk; have := c389h.out; have := c447h.out; have := c448h.out; have := c449h.out; have := c450h.out; have := c451h.out; have := c452h.out; have := c453h.out; have := c454h.out; exact (decide_eq_false (by omega)).symm), by first | exact H428.out.below | exact H428.out.below'⟩
         ·
          have c453a : ((sh2 : Int) == (0)) = false := by simpa using c453
          have c453b : ((sh2 : Int) != (0)) = true := by simpa using c453
          have c453h := hid c453
          clear c453
          iterate 4 (refine lsA ?_; try simp only [Act.put, p1, p2, p3, p4, p5, p6])
          iterate 13 (refine lsU ?_; try simp only [Act.put, p1, p2, p3, p4, p5, p6])
          iterate 2 (refine lsA ?_; try simp only [Act.put, p1, p2, p3, p4, p5, p6])
          iterate 8 (refine lsU ?_; try simp only [Act.put, p1, p2, p3, p4, p5, p6])
          iterate 2 (refine lsA ?_; try simp only [Act.put, p1, p2, p3, p4, p5, p6])
          iterate 7 (refine lsU ?_; try simp only [Act.put, p1, p2, p3, p4, p5, p6])
          iterate 2 (refine lsA ?_; try simp only [Act.put, p1, p2, p3, p4, p5, p6])
          iterate 9 (refine lsU ?_; try simp only [Act.put, p1, p2, p3, p4, p5, p6])
          iterate 2 (refine lsA ?_; try simp only [Act.put, p1, p2, p3, p4, p5, p6])
          refine wL_nil ?_
          clear z429 z430 z431 z432 z433 z434 z435 z436 z437 z438 z439 z440 z441 z442 z443 z444 z445 z446
          go_wp2_with fail
          have he0 := HEB.out
          try simp only [decide_eq_true_eq, decide_eq_false_iff_not] at he0
          go_ret
          exact ⟨ret_b (by unfold sfOk; have := c389h.out; have := c447h.out; have := c448h.out; have := c449h.out; have := c450h.out; have := c451h.out; have := c452h.out; have := c453h.out; exact (decide_eq_false (by omega)).symm), by first | exact H428.out.below | exact H428.out.below'⟩
        ·
         have c452a : ((sh : Int) == (0)) = false := by simpa using c452
         have c452b : ((sh : Int) != (0)) = true := by simpa using c452
         have c452h := hid c452
         clear c452
         iterate 4 (refine lsA ?_; try simp only [Act.put, p1, p2, p3, p4, p5, p6])
         iterate 9 (refine lsU ?_; try simp only [Act.put, p1, p2, p3, p4, p5, p6])
         iterate 2 (refine lsA ?_; try simp only [Act.put, p1, p2, p3, p4, p5, p6])
         iterate 13 (refine lsU ?_; try simp only [Act.put, p1, p2, p3, p4, p5, p6])
         iterate 2 (refine lsA ?_; try simp only [Act.put, p1, p2, p3, p4, p5, p6])
         iterate 8 (refine lsU ?_; try simp only [Act.put, p1, p2, p3, p4, p5, p6])
         iterate 2 (refine lsA ?_; try simp only [Act.put, p1, p2, p3, p4, p5, p6])
         iterate 7 (refine lsU ?_; try simp only [Act.put, p1, p2, p3, p4, p5, p6])
         iterate 2 (refine lsA ?_; try simp only [Act.put, p1, p2, p3, p4, p5, p6])
         iterate 9 (refine lsU ?_; try simp only [Act.put, p1, p2, p3, p4, p5, p6])
         iterate 2 (refine lsA ?_; try simp only [Act.put, p1, p2, p3, p4, p5, p6])
         refine wL_nil ?_
         clear z429 z430 z431 z432 z433 z434 z435 z436 z437 z438 z439 z440 z441 z442 z443 z444 z445 z446
         go_wp2_with fail
         have he0 := HEB.out
         try simp only [decide_eq_true_eq, decide_eq_false_iff_not] at he0
         go_ret
         exact ⟨ret_b (by unfold sfOk; have := c389h.out; have := c447h.out; have := c448h.out; have := c449h.out; have := c450h.out; have := c451h.out; have := c452h.out; exact (decide_eq_false (by omega)).symm), by first | exact H428.out.below | exact H428.out.below'⟩
       ·
        have c451a : ((cn : Int) == (0)) = false := by simpa using c451
        have c451b : ((cn : Int) != (0)) = true := by simpa using c451
        have c451e : (cn == 0) = false := by simp; omega
        have c451f : (cn != 0) = true := by simp; omega
        have c451h := hid c451
        clear c451
        iterate 5 (refine lsA ?_; try simp only [Act.put, p1, p2, p3, p4, p5, p6])
        iterate 6 (refine lsU ?_; try simp only [Act.put, p1, p2, p3, p4, p5, p6])
        iterate 2 (refine lsA ?_; try simp only [Act.put, p1, p2, p3, p4, p5, p6])
        iterate 9 (refine lsU ?_; try simp only [Act.put, p1, p2, p3, p4, p5, p6])
        iterate 2 (refine lsA ?_; try simp only [Act.put, p1, p2, p3, p4, p5, p6])
        iterate 13 (refine lsU ?_; try simp only [Act.put, p1, p2, p3, p4, p5, p6])
        iterate 2 (refine lsA ?_; try simp only [Act.put, p1, p2, p3, p4, p5, p6])
        iterate 8 (refine lsU ?_; try simp only [Act.put, p1, p2, p3, p4, p5, p6])
        iterate 2 (refine lsA ?_; try simp only [Act.put, p1, p2, p3, p4, p5, p6])
        iterate 7 (refine lsU ?_; try simp only [Act.put, p1, p2, p3, p4, p5, p6])
        iterate 2 (refine lsA ?_; try simp only [Act.put, p1, p2, p3, p4, p5, p6])
        iterate 9 (refine lsU ?_; try simp only [Act.put, p1, p2, p3, p4, p5, p6])
        iterate 2 (refine lsA ?_; try simp only [Act.put, p1, p2, p3, p4, p5, p6])
        refine wL_nil ?_
        clear z429 z430 z431 z432 z433 z434 z435 z436 z437 z438 z439 z440 z441 z442 z443 z444 z445 z446
        go_wp2_with fail
        have he0 := HEB.out
        try simp only [decide_eq_true_eq, decide_eq_false_iff_not] at he0
        go_ret
        exact ⟨ret_b (by unfold sfOk; have := c389h.out; have := c447h.out; have := c448h.out; have := c449h.out; have := c450h.out; have := c451h.out; exact (decide_eq_false (by omega)).symm), by first | exact H428.out.below | exact H428.out.below'⟩
      ·
       have c450a : ((rn : Int) == (0)) = false := by simpa using c450
       have c450b : ((rn : Int) != (0)) = true := by simpa using c450
       have c450e : (rn == 0) = false := by simp; omega
       have c450f : (rn != 0) = true := by simp; omega
       have c450h := hid c450
       clear c450
       iterate 2 (refine lsA ?_; try simp only [Act.put, p1, p2, p3, p4, p5, p6])
       iterate 4 (refine lsU ?_; try simp only [Act.put, p1, p2, p3, p4, p5, p6])
       iterate 4 (refine lsA ?_; try simp only [Act.put, p1, p2, p3, p4, p5, p6])
       iterate 6 (refine lsU ?_; try simp only [Act.put, p1, p2, p3, p4, p5, p6])
       iterate 2 (refine lsA ?_; try simp only [Act.put, p1, p2, p3, p4, p5, p6])
       iterate 9 (refine lsU ?_; try simp only [Act.put, p1, p2, p3, p4, p5, p6])
       iterate 2 (refine lsA ?_; try simp only [Act.put, p1, p2, p3, p4, p5, p6])
       iterate 13 (refine lsU ?_; try simp only [Act.put, p1, p2, p3, p4, p5, p6])
       iterate 2 (refine lsA ?_; try simp only [Act.put, p1, p2, p3, p4, p5, p6])
       iterate 8 (refine lsU ?_; try simp only [Act.put, p1, p2, p3, p4, p5, p6])
       iterate 2 (refine lsA ?_; try simp only [Act.put, p1, p2, p3, p4, p5, p6])
       iterate 7 (refine lsU ?_; try simp only [Act.put, p1, p2, p3, p4, p5, p6])
       iterate 2 (refine lsA ?_; try simp only [Act.put, p1, p2, p3, p4, p5, p6])
       iterate 9 (refine lsU ?_; try simp only [Act.put, p1, p2, p3, p4, p5, p6])
       iterate 2 (refine lsA ?_; try simp only [Act.put, p1, p2, p3, p4, p5, p6])
       refine wL_nil ?_
       clear z429 z430 z431 z432 z433 z434 z435 z436 z437 z438 z439 z440 z441 z442 z443 z444 z445 z446
       go_wp2_with fail
       have he0 := HEB.out
       try simp only [decide_eq_true_eq, decide_eq_false_iff_not] at he0
       go_ret
       exact ⟨ret_b (by unfold sfOk; have := c389h.out; have := c447h.out; have := c448h.out; have := c449h.out; have := c450h.out; exact (decide_eq_false (by omega)).symm), by first | exact H428.out.below | exact H428.out.below'⟩
     ·
      have c449a : ((wn : Int) == (0)) = false := by simpa using c449
      have c449b : ((wn : Int) != (0)) = true := by simpa using c449
      have c449e : (wn == 0) = false := by simp; omega
      have c449f : (wn != 0) = true := by simp; omega
      have c449h := hid c449
      clear c449
      iterate 5 (refine lsA ?_; try simp only [Act.put, p1, p2, p3, p4, p5, p6])
      iterate 13 (refine lsU ?_; try simp only [Act.put, p1, p2, p3, p4, p5, p6])
      iterate 2 (refine lsA ?_; try simp only [Act.put, p1, p2, p3, p4, p5, p6])
      iterate 6 (refine lsU ?_; try simp only [Act.put, p1, p2, p3, p4, p5, p6])
      iterate 2 (refine lsA ?_; try simp only [Act.put, p1, p2, p3, p4, p5, p6])
      iterate 9 (refine lsU ?_; try simp only [Act.put, p1, p2, p3, p4, p5, p6])
      iterate 2 (refine lsA ?_; try simp only [Act.put, p1, p2, p3, p4, p5, p6])
      iterate 13 (refine lsU ?_; try simp only [Act.put, p1, p2, p3, p4, p5, p6])
      iterate 2 (refine lsA ?_; try simp only [Act.put, p1, p2, p3, p4, p5, p6])
      iterate 8 (refine lsU ?_; try simp only [Act.put, p1, p2, p3, p4, p5, p6])
      iterate 2 (refine lsA ?_; try simp only [Act.put, p1, p2, p3, p4, p5, p6])
      iterate 7 (refine lsU ?_; try simp only [Act.put, p1, p2, p3, p4, p5, p6])
      iterate 2 (refine lsA ?_; try simp only [Act.put, p1, p2, p3, p4, p5, p6])
      iterate 9 (refine lsU ?_; try simp only [Act.put, p1, p2, p3, p4, p5, p6])
      iterate 2 (refine lsA ?_; try simp only [Act.put, p1, p2, p3, p4, p5, p6])
      refine wL_nil ?_
      clear z429 z430 z431 z432 z433 z434 z435 z436 z437 z438 z439 z440 z441 z442 z443 z444 z445 z446
      go_wp2_with fail
      have he0 := HEB.out
      try simp only [decide_eq_true_eq, decide_eq_false_iff_not] at he0
      go_ret
      exact ⟨ret_b (by unfold sfOk; have := c389h.out; have := c447h.out; have := c448h.out; have := c449h.out; exact (decide_eq_false (by omega)).symm), by first | exact H428.out.below | exact H428.out.below'⟩
    ·
     have c448a : ((kh : Int) == (0)) = false := by simpa using c448
     have c448b : ((kh : Int) != (0)) = true := by simpa using c448
     have c448h := hid c448
     clear c448
     iterate 3 (refine lsA ?_; try simp only [Act.put, p1, p2, p3, p4, p5, p6])
     iterate 4 (refine lsU ?_; try simp only [Act.put, p1, p2, p3, p4, p5, p6])
     iterate 4 (refine lsA ?_; try simp only [Act.put, p1, p2, p3, p4, p5, p6])
     iterate 13 (refine lsU ?_; try simp only [Act.put, p1, p2, p3, p4, p5, p6])
     iterate 2 (refine lsA ?_; try simp only [Act.put, p1, p2, p3, p4, p5, p6])
     iterate 6 (refine lsU ?_; try simp only [Act.put, p1, p2, p3, p4, p5, p6])
     iterate 2 (refine lsA ?_; try simp only [Act.put, p1, p2, p3, p4, p5, p6])
     iterate 9 (refine lsU ?_; try simp only [Act.put, p1, p2, p3, p4, p5, p6])
     iterate 2 (refine lsA ?_; try simp only [Act.put, p1, p2, p3, p4, p5, p6])
     iterate 13 (refine lsU ?_; try simp only [Act.put, p1, p2, p3, p4, p5, p6])
     iterate 2 (refine lsA ?_; try simp only [Act.put, p1, p2, p3, p4, p5, p6])
     iterate 8 (refine lsU ?_; try simp only [Act.put, p1, p2, p3, p4, p5, p6])
     iterate 2 (refine lsA ?_; try simp only [Act.put, p1, p2, p3, p4, p5, p6])
     iterate 7 (refine lsU ?_; try simp only [Act.put, p1, p2, p3, p4, p5, p6])
     iterate 2 (refine lsA ?_; try simp only [Act.put, p1, p2, p3, p4, p5, p6])
     iterate 9 (refine lsU ?_; try simp only [Act.put, p1, p2, p3, p4, p5, p6])
     iterate 2 (refine lsA ?_; try simp only [Act.put, p1, p2, p3, p4, p5, p6])
     refine wL_nil ?_
     clear z429 z430 z431 z432 z433 z434 z435 z436 z437 z438 z439 z440 z441 z442 z443 z444 z445 z446
     go_wp2_with fail
     have he0 := HEB.out
     try simp only [decide_eq_true_eq, decide_eq_false_iff_not] at he0
     go_ret
     exact ⟨ret_b (by unfold sfOk; have := c389h.out; have := c447h.out; have := c448h.out; exact (decide_eq_false (by omega)).symm), by first | exact H428.out.below | exact H428.out.below'⟩
   ·
    have c447a : ((kw : Int) == (0)) = false := by simpa using c447
    have c447b : ((kw : Int) != (0)) = true := by simpa using c447
    have c447h := hid c447
    clear c447
    iterate 2 (refine lsA ?_; try simp only [Act.put, p1, p2, p3, p4, p5, p6])
    iterate 3 (refine lsU ?_; try simp only [Act.put, p1, p2, p3, p4, p5, p6])
    iterate 2 (refine lsA ?_; try simp only [Act.put, p1, p2, p3, p4, p5, p6])
    iterate 4 (refine lsU ?_; try simp only [Act.put, p1, p2, p3, p4, p5, p6])
    iterate 4 (refine lsA ?_; try simp only [Act.put, p1, p2, p3, p4, p5, p6])
    iterate 13 (refine lsU ?_; try simp only [Act.put, p1, p2, p3, p4, p5, p6])
    iterate 2 (refine lsA ?_; try simp only [Act.put, p1, p2, p3, p4, p5, p6])
    iterate 6 (refine lsU ?_; try simp only [Act.put, p1, p2, p3, p4, p5, p6])
    iterate 2 (refine lsA ?_; try simp only [Act.put, p1, p2, p3, p4, p5, p6])
    iterate 9 (refine lsU ?_; try simp only [Act.put, p1, p2, p3, p4, p5, p6])
    iterate 2 (refine lsA ?_; try simp only [Act.put, p1, p2, p3, p4, p5, p6])
    iterate 13 (refine lsU ?_; try simp only [Act.put, p1, p2, p3, p4, p5, p6])
    iterate 2 (refine lsA ?_; try simp only [Act.put, p1, p2, p3, p4, p5, p6])
    iterate 8 (refine lsU ?_; try simp only [Act.put, p1, p2, p3, p4, p5, p6])
    iterate 2 (refine lsA ?_; try simp only [Act.put, p1, p2, p3, p4, p5, p6])
    iterate 7 (refine lsU ?_; try simp only [Act.put, p1, p2, p3, p4, p5, p6])
    iterate 2 (refine lsA ?_; try simp only [Act.put, p1, p2, p3, p4, p5, p6])
    iterate 9 (refine lsU ?_; try simp only [Act.put, p1, p2, p3, p4, p5, p6])
    iterate 2 (refine lsA ?_; try simp only [Act.put, p1, p2, p3, p4, p5, p6])
    refine wL_nil ?_
    clear z429 z430 z431 z432 z433 z434 z435 z436 z437 z438 z439 z440 z441 z442 z443 z444 z445 z446
    go_wp2_with fail
    have he0 := HEB.out
    try simp only [decide_eq_true_eq, decide_eq_false_iff_not] at he0
    go_ret
    exact ⟨ret_b (by unfold sfOk; have := c389h.out; have := c447h.out; exact (decide_eq_false (by omega)).symm), by first | exact H428.out.below | exact H428.out.below'⟩
  | false =>
   iterate 3 (refine lsA ?_; try simp only [Act.put, p1, p2, p3, p4, p5, p6])
   iterate 17 (refine lsU ?_; try simp only [Act.put, p1, p2, p3, p4, p5, p6])
   iterate 2 (refine lsA ?_; try simp only [Act.put, p1, p2, p3, p4, p5, p6])
   iterate 13 (refine lsU ?_; try simp only [Act.put, p1, p2, p3, p4, p5, p6])
   iterate 2 (refine lsA ?_; try simp only [Act.put, p1, p2, p3, p4, p5, p6])
   iterate 6 (refine lsU ?_; try simp only [Act.put, p1, p2, p3, p4, p5, p6])
   iterate 2 (refine lsA ?_; try simp only [Act.put, p1, p2, p3, p4, p5, p6])
   iterate 9 (refine lsU ?_; try simp only [Act.put, p1, p2, p3, p4, p5, p6])
   iterate 2 (refine lsA ?_; try simp only [Act.put, p1, p2, p3, p4, p5, p6])
   iterate 13 (refine lsU ?_; try simp only [Act.put, p1, p2, p3, p4, p5, p6])
   iterate 2 (refine lsA ?_; try simp only [Act.put, p1, p2, p3, p4, p5, p6])
   iterate 8 (refine lsU ?_; try simp only [Act.put, p1, p2, p3, p4, p5, p6])
   iterate 2 (refine lsA ?_; try simp only [Act.put, p1, p2, p3, p4, p5, p6])
   iterate 7 (refine lsU ?_; try simp only [Act.put, p1, p2, p3, p4, p5, p6])
   iterate 2 (refine lsA ?_; try simp only [Act.put, p1, p2, p3, p4, p5, p6])
   iterate 9 (refine lsU ?_; try simp only [Act.put, p1, p2, p3, p4, p5, p6])
   iterate 2 (refine lsA ?_; try simp only [Act.put, p1, p2, p3, p4, p5, p6])
   refine wL_nil ?_
   clear z429 z430 z431 z432 z433 z434 z435 z436 z437 z438 z439 z440 z441 z442 z443 z444 z445 z446
   go_wp2_with fail
   have he0 := HEB.out
   try simp only [decide_eq_true_eq, decide_eq_false_iff_not] at he0
   go_ret
   exact ⟨ret_b (by unfold sfOk; have := c389h.out; exact (decide_eq_false (by omega)).symm), by first | exact H428.out.below | exact H428.out.below'⟩
 ·
  have c389a : ((sb : Int) == ((-1))) = false := by simpa using c389
  have c389b : ((sb : Int) != ((-1))) = true := by simpa using c389
  have c389h := hid c389
  clear c389
  obtain ⟨z499, z500, z501, z502, z503, z504, z505, z506, z507, z508, z509, z510, z511, z512, z513, z514, z515, z516⟩ := cs18 H387.out 0 rfl
  go_wp2_with fail
  clear z499 z500 z501 z502 z503 z504 z505 z506 z507 z508 z509 z510 z511 z512 z513 z514 z515 z516
  have he0 := HEB.out
  try simp only [decide_eq_true_eq, decide_eq_false_iff_not] at he0
  go_ret
  exact ⟨ret_b (by unfold sfOk; have := c389h.out; exact (decide_eq_false (by omega)).symm), by first | exact H387.out.below | exact H387.out.below'⟩
end Go.Proofs.Yteejjnhlfgjlaaa
