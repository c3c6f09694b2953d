/-
 Contract: which fields a stage may use, in the program, at the kind 5.
-/
import Derived.Test.YteejjnhlfgjlaaaStF
import Derived.Test.YteejjnhlfgjlaaaKH
namespace Go.Proofs.Yteejjnhlfgjlaaa
open Go.RowKit
attribute [local go_sem ↓] Go.wp_at_zero Go.wp_at_succ edge_eq edge_ne
set_option linter.unusedVariables false
set_option linter.unusedSimpArgs false

set_option maxRecDepth 100000 in
set_option maxHeartbeats 6400000 in
theorem sfields_5 (sa sb : Int) (bar : Bool) (ep ef kw kh : Int) (wa : Option Addr) (wn wc : Nat) (ra : Option Addr) (rn rc : Nat) (ca : Option Addr) (cn cc : Nat) (sh sh2 : Int) (xa : Option Addr) (xn xc : Nat) (ya : Option Addr) (yn yc : Nat) (bins : Int) (oa : Option Addr) (on oc : Nat) (mx : Int) (W : World) : Calls Try.prog 11 #[.agg #[.int .i64 5, .int .i64 sa, .int .i64 sb, .bool bar, .int .i64 ep, .int .i64 ef, .int .i64 kw, .int .i64 kh, .slice wa wn wc, .slice ra rn rc, .slice ca cn cc, .int .i64 sh, .int .i64 sh2, .slice xa xn xc, .slice ya yn yc, .int .i64 bins, .slice oa on oc, .int .i64 mx]] W fun e w' => e = .returned (.bool (sfOk 5 sb ep ef kw kh wn rn cn sh sh2 xn yn bins on mx)) ∧ Below W.heap.size W w' := by
 obtain ⟨B, hB⟩ : ∃ B, W.heap.size = B := ⟨_, rfl⟩
 have HI0 := hid (St.init hB)
 obtain ⟨eb, heb⟩ : ∃ x, decide (ep = 0 ∧ ef = 0) = x := ⟨_, rfl⟩
 have HEB := hid heb
 go_enter Try.func11, Try.ntmps11
 go_upto_region 1 with fail
 have H517 := hid (HI0.out.alloc #[.int .i64 5, .int .i64 sa, .int .i64 sb, .bool bar, .int .i64 ep, .int .i64 ef, .int .i64 kw, .int .i64 kh, .slice wa wn wc, .slice ra rn rc, .slice ca cn cc, .int .i64 sh, .int .i64 sh2, .slice xa xn xc, .slice ya yn yc, .int .i64 bins, .slice oa on oc, .int .i64 mx] 33 hB)
 first | refine gen_code H517.out ?_ | refine gen_list H517.out ?_ | refine gen_calls H517.out ?_
 intro w518 hG
 clear H517
 have H517 := hid hG
 clear hG
 by_cases c519 : (sb : Int) = (-1)
 ·
  obtain ⟨c519c, c519d⟩ : (sb : Int) ≤ (-1) ∧ ((-1) : Int) ≤ sb := by omega
  have c519a : ((sb : Int) == ((-1))) = true := by simpa using c519
  have c519b : ((sb : Int) != ((-1))) = false := by simpa using c519
  have c519h := hid c519
  clear c519
  obtain ⟨z520, z521, z522, z523, z524, z525, z526, z527, z528, z529, z530, z531, z532, z533, z534, z535, z536, z537⟩ := cs18 H517.out 0 rfl
  go_wp2_with fail
  clear z520 z521 z522 z523 z524 z525 z526 z527 z528 z529 z530 z531 z532 z533 z534 z535 z536 z537
  refine (edged_any _ _).mono ?_
  rintro e w538 ⟨rfl, hsw⟩
  have hsw2 : w518 = w538 := by first | exact hsw | exact hsw.symm
  clear hsw
  subst hsw2
  rw [show edOk 5 = false from by decide]
  obtain ⟨D539, hD539⟩ : ∃ D, w518.heap.size = D := ⟨_, rfl⟩
  go_wp2_with fail
  have H540 := hid (H517.out.alloc #[.int .i64 1] 3 hD539)
  first | refine gen_code H540.out ?_ | refine gen_list H540.out ?_ | refine gen_calls H540.out ?_
  intro w541 hG
  clear H540
  have H540 := hid hG
  clear hG
  clear hD539
  refine (is_any _ _ _ [1] B _ _ (H540.out.lit 0 [1] rfl (by simp)) (by decide) (hid (H540.out.cell 1 rfl 0 rfl))).mono ?_
  rintro e w542 ⟨rfl, hb⟩
  have H543 := hid (H540.out.call hb)
  clear hb
  rw [show isIn 5 [1] = false from by decide]
  obtain ⟨D544, hD544⟩ : ∃ D, w542.heap.size = D := ⟨_, rfl⟩
  go_wp2_with fail
  have H545 := hid (H543.out.alloc #[.int .i64 2] 3 hD544)
  first | refine gen_code H545.out ?_ | refine gen_list H545.out ?_ | refine gen_calls H545.out ?_
  intro w546 hG
  clear H545
  have H545 := hid hG
  clear hG
  clear hD544
  refine (is_any _ _ _ [2] B _ _ (H545.out.lit 0 [2] rfl (by simp)) (by decide) (hid (H545.out.cell 2 rfl 0 rfl))).mono ?_
  rintro e w547 ⟨rfl, hb⟩
  have H548 := hid (H545.out.call hb)
  clear hb
  rw [show isIn 5 [2] = false from by decide]
  obtain ⟨D549, hD549⟩ : ∃ D, w547.heap.size = D := ⟨_, rfl⟩
  go_wp2_with fail
  have H550 := hid (H548.out.alloc #[.int .i64 3] 3 hD549)
  first | refine gen_code H550.out ?_ | refine gen_list H550.out ?_ | refine gen_calls H550.out ?_
  intro w551 hG
  clear H550
  have H550 := hid hG
  clear hG
  clear hD549
  refine (is_any _ _ _ [3] B _ _ (H550.out.lit 0 [3] rfl (by simp)) (by decide) (hid (H550.out.cell 3 rfl 0 rfl))).mono ?_
  rintro e w552 ⟨rfl, hb⟩
  have H553 := hid (H550.out.call hb)
  clear hb
  rw [show isIn 5 [3] = false from by decide]
  obtain ⟨D554, hD554⟩ : ∃ D, w552.heap.size = D := ⟨_, rfl⟩
  go_wp2_with fail
  have H555 := hid (H553.out.alloc #[.int .i64 6] 3 hD554)
  first | refine gen_code H555.out ?_ | refine gen_list H555.out ?_ | refine gen_calls H555.out ?_
  intro w556 hG
  clear H555
  have H555 := hid hG
  clear hG
  clear hD554
  refine (is_any _ _ _ [6] B _ _ (H555.out.lit 0 [6] rfl (by simp)) (by decide) (hid (H555.out.cell 4 rfl 0 rfl))).mono ?_
  rintro e w557 ⟨rfl, hb⟩
  have H558 := hid (H555.out.call hb)
  clear hb
  rw [show isIn 5 [6] = false from by decide]
  go_upto_region 11 with fail
  first | refine wp_region_lit (wL_to ?_) | refine wp_seq (wp_region_lit (wL_to ?_))
  obtain ⟨z559, z560, z561, z562, z563, z564, z565, z566, z567, z568, z569, z570, z571, z572, z573, z574, z575, z576⟩ := cs18 H558.out 4 rfl
  iterate 5 (refine lsA ?_; try simp only [Act.put, p1, p2, p3, p4, p5, p6])
  cases eb with
  | true =>
   iterate 7 (refine lsA ?_; try simp only [Act.put, p1, p2, p3, p4, p5, p6])
   by_cases c577 : (kw : Int) = 0
   ·
    obtain ⟨c577c, c577d⟩ : (kw : Int) ≤ 0 ∧ (0 : Int) ≤ kw := by omega
    have c577a : ((kw : Int) == (0)) = true := by simpa using c577
    have c577b : ((kw : Int) != (0)) = false := by simpa using c577
    have c577h := hid c577
    clear c577
    iterate 4 (refine lsA ?_; try simp only [Act.put, p1, p2, p3, p4, p5, p6])
    by_cases c578 : (kh : Int) = 0
    ·
     obtain ⟨c578c, c578d⟩ : (kh : Int) ≤ 0 ∧ (0 : Int) ≤ kh := by omega
     have c578a : ((kh : Int) == (0)) = true := by simpa using c578
     have c578b : ((kh : Int) != (0)) = false := by simpa using c578
     have c578h := hid c578
     clear c578
     iterate 6 (refine lsA ?_; try simp only [Act.put, p1, p2, p3, p4, p5, p6])
     by_cases c579 : (wn : Int) = 0
     ·
      obtain ⟨c579c, c579d⟩ : (wn : Int) ≤ 0 ∧ (0 : Int) ≤ wn := by omega
      have c579a : ((wn : Int) == (0)) = true := by simpa using c579
      have c579b : ((wn : Int) != (0)) = false := by simpa using c579
      have c579e : (wn == 0) = true := by simp; omega
      have c579f : (wn != 0) = false := by simp; omega
      have c579h := hid c579
      clear c579
      iterate 10 (refine lsA ?_; try simp only [Act.put, p1, p2, p3, p4, p5, p6])
      by_cases c580 : (rn : Int) = 0
      ·
       obtain ⟨c580c, c580d⟩ : (rn : Int) ≤ 0 ∧ (0 : Int) ≤ rn := by omega
       have c580a : ((rn : Int) == (0)) = true := by simpa using c580
       have c580b : ((rn : Int) != (0)) = false := by simpa using c580
       have c580e : (rn == 0) = true := by simp; omega
       have c580f : (rn != 0) = false := by simp; omega
       have c580h := hid c580
       clear c580
       iterate 5 (refine lsA ?_; try simp only [Act.put, p1, p2, p3, p4, p5, p6])
       by_cases c581 : (cn : Int) = 0
       ·
        obtain ⟨c581c, c581d⟩ : (cn : Int) ≤ 0 ∧ (0 : Int) ≤ cn := by omega
        have c581a : ((cn : Int) == (0)) = true := by simpa using c581
        have c581b : ((cn : Int) != (0)) = false := by simpa using c581
        have c581e : (cn == 0) = true := by simp; omega
        have c581f : (cn != 0) = false := by simp; omega
        have c581h := hid c581
        clear c581
        iterate 9 (refine lsA ?_; try simp only [Act.put, p1, p2, p3, p4, p5, p6])
        by_cases c582 : (sh : Int) = 0
        ·
         obtain ⟨c582c, c582d⟩ : (sh : Int) ≤ 0 ∧ (0 : Int) ≤ sh := by omega
         have c582a : ((sh : Int) == (0)) = true := by simpa using c582
         have c582b : ((sh : Int) != (0)) = false := by simpa using c582
         have c582h := hid c582
         clear c582
         iterate 11 (refine lsA ?_; try simp only [Act.put, p1, p2, p3, p4, p5, p6])
         by_cases c583 : (sh2 : Int) = 0
         ·
          obtain ⟨c583c, c583d⟩ : (sh2 : Int) ≤ 0 ∧ (0 : Int) ≤ sh2 := by omega
          have c583a : ((sh2 : Int) == (0)) = true := by simpa using c583
          have c583b : ((sh2 : Int) != (0)) = false := by simpa using c583
          have c583h := hid c583
          clear c583
          iterate 9 (refine lsA ?_; try simp only [Act.put, p1, p2, p3, p4, p5, p6])
          by_cases c584 : (xn : Int) = 0
          ·
           obtain ⟨c584c, c584d⟩ : (xn : Int) ≤ 0 ∧ (0 : Int) ≤ xn := by omega
           have c584a : ((xn : Int) == (0)) = true := by simpa using c584
           have c584b : ((xn : Int) != (0)) = false := by simpa using c584
           have c584e : (xn == 0) = true := by simp; omega
           have c584f : (xn != 0) = false := by simp; omega
           have c584h := hid c584
           clear c584
           iterate 5 (refine lsA ?_; try simp only [Act.put, p1, p2, p3, p4, p5, p6])
           by_cases c585 : (yn : Int) = 0
           ·
            obtain ⟨c585c, c585d⟩ : (yn : Int) ≤ 0 ∧ (0 : Int) ≤ yn := by omega
            have c585a : ((yn : Int) == (0)) = true := by simpa using c585
            have c585b : ((yn : Int) != (0)) = false := by simpa using c585
            have c585e : (yn == 0) = true := by simp; omega
            have c585f : (yn != 0) = false := by simp; omega
            have c585h := hid c585
            clear c585
            iterate 6 (refine lsA ?_; try simp only [Act.put, p1, p2, p3, p4, p5, p6])
            obtain ⟨D586, hD586⟩ : ∃ D, w557.heap.size = D := ⟨_, rfl⟩
            refine lsB ?_
            try simp only [Act.put, p1, p2, p3, p4, p5, p6]
            have H587 := hid (H558.out.alloc #[.int .i64 4] 3 hD586)
            clear hD586
            generalize (w557.alloc (.cells #[.int .i64 4] 3)) = k588 at *
            clear z559 z560 z561 z562 z563 z564 z565 z566 z567 z568 z569 z570 z571 z572 z573 z574 z575 z576
            obtain ⟨z589, z590, z591, z592, z593, z594, z595, z596, z597, z598, z599, z600, z601, z602, z603, z604, z605, z606⟩ := cs18 H587.out 5 rfl
            refine lsC ?_
            refine (is_any _ _ _ [4] B _ _ (H587.out.lit 0 [4] rfl (by simp)) (by decide) (hid (H587.out.cell 5 rfl 0 rfl))).mono ?_
            rintro e w607 ⟨rfl, hb⟩
            have H608 := hid (H587.out.call hb)
            clear hb
            rw [show isIn 5 [4] = false from by decide]
            refine ⟨_, rfl, ?_⟩
            try simp only [Act.put, p1, p2, p3, p4, p5, p6]
            clear z589 z590 z591 z592 z593 z594 z595 z596 z597 z598 z599 z600 z601 z602 z603 z604 z605 z606
            obtain ⟨z609, z610, z611, z612, z613, z614, z615, z616, z617, z618, z619, z620, z621, z622, z623, z624, z625, z626⟩ := cs18 H608.out 5 rfl
            iterate 3 (refine lsA ?_; try simp only [Act.put, p1, p2, p3, p4, p5, p6])
            by_cases c627 : (bins : Int) = 0
            ·
             obtain ⟨c627c, c627d⟩ : (bins : Int) ≤ 0 ∧ (0 : Int) ≤ bins := by omega
             have c627a : ((bins : Int) == (0)) = true := by simpa using c627
             have c627b : ((bins : Int) != (0)) = false := by simpa using c627
             have c627h := hid c627
             clear c627
             iterate 9 (refine lsA ?_; try simp only [Act.put, p1, p2, p3, p4, p5, p6])
             by_cases c628 : (on : Int) = 0
             ·
              obtain ⟨c628c, c628d⟩ : (on : Int) ≤ 0 ∧ (0 : Int) ≤ on := by omega
              have c628a : ((on : Int) == (0)) = true := by simpa using c628
              have c628b : ((on : Int) != (0)) = false := by simpa using c628
              have c628e : (on == 0) = true := by simp; omega
              have c628f : (on != 0) = false := by simp; omega
              have c628h := hid c628
              clear c628
              iterate 11 (refine lsA ?_; try simp only [Act.put, p1, p2, p3, p4, p5, p6])
              by_cases c629 : (mx : Int) = 0
              ·
               obtain ⟨c629c, c629d⟩ : (mx : Int) ≤ 0 ∧ (0 : Int) ≤ mx := by omega
               have c629a : ((mx : Int) == (0)) = true := by simpa using c629
               have c629b : ((mx : Int) != (0)) = false := by simpa using c629
               have c629h := hid c629
               clear c629
               iterate 4 (refine lsA ?_; try simp only [Act.put, p1, p2, p3, p4, p5, p6])
               refine wL_nil ?_
               clear z609 z610 z611 z612 z613 z614 z615 z616 z617 z618 z619 z620 z621 z622 z623 z624 z625 z626
               go_wp2_with fail
               have he0 := HEB.out
               try simp only [decide_eq_true_eq, decide_eq_false_iff_not] at he0
               go_ret
               exact ⟨ret_b (by unfold sfOk; have := c519h.out; have := c577h.out; have := c578h.out; have := c579h.out; have := c580h.out; have := c581h.out; have := c582h.out; have := c583h.out; have := c584h.out; have := c585h.out; have := c627h.out; have := c628h.out; have := c629h.out; exact (decide_eq_true (by omega)).symm), by first | exact H608.out.below | exact H608.out.below'⟩
              ·
               have c629a : ((mx : Int) == (0)) = false := by simpa using c629
               have c629b : ((mx : Int) != (0)) = true := by simpa using c629
               have c629h := hid c629
               clear c629
               iterate 4 (refine lsA ?_; try simp only [Act.put, p1, p2, p3, p4, p5, p6])
               refine wL_nil ?_
               clear z609 z610 z611 z612 z613 z614 z615 z616 z617 z618 z619 z620 z621 z622 z623 z624 z625 z626
               go_wp2_with fail
               have he0 := HEB.out
               try simp only [decide_eq_true_eq, decide_eq_false_iff_not] at he0
               go_ret
               exact ⟨ret_b (by unfold sfOk; have := c519h.out; have := c577h.out; have := c578h.out; have := c579h.out; have := c580h.out; have := c581h.out; have := c582h.out; have := c583h.out; have := c584h.out; have := c585h.out; have := c627h.out; have := c628h.out; have := c629h.out; exact (decide_eq_false (by omega)).symm), by first | exact H608.out.below | exact H608.out.below'⟩
             ·
              have c628a : ((on : Int) == (0)) = false := by simpa using c628
              have c628b : ((on : Int) != (0)) = true := by simpa using c628
              have c628e : (on == 0) = false := by simp; omega
              have c628f : (on != 0) = true := by simp; omega
              have c628h := hid c628
              clear c628
              iterate 4 (refine lsA ?_; try simp only [Act.put, p1, p2, p3, p4, p5, p6])
              iterate 9 (refine lsU ?_; try simp only [Act.put, p1, p2, p3, p4, p5, p6])
              iterate 2 (refine lsA ?_; try simp only [Act.put, p1, p2, p3, p4, p5, p6])
              refine wL_nil ?_
              clear z609 z610 z611 z612 z613 z614 z615 z616 z617 z618 z619 z620 z621 z622 z623 z624 z625 z626
              go_wp2_with fail
              have he0 := HEB.out
              try simp only [decide_eq_true_eq, decide_eq_false_iff_not] at he0
              go_ret
              exact ⟨ret_b (by unfold sfOk; have := c519h.out; have := c577h.out; have := c578h.out; have := c579h.out; have := c580h.out; have := c581h.out; have := c582h.out; have := c583h.out; have := c584h.out; have := c585h.out; have := c627h.out; have := c628h.out; exact (decide_eq_false (by omega)).symm), by first | exact H608.out.below | exact H608.out.below'⟩
            ·
             have c627a : ((bins : Int) == (0)) = false := by simpa using c627
             have c627b : ((bins : Int) != (0)) = true := by simpa using c627
             have c627h := hid c627
             clear c627
             iterate 4 (refine lsA ?_; try simp only [Act.put, p1, p2, p3, p4, p5, p6])
             iterate 7 (refine lsU ?_; try simp only [Act.put, p1, p2, p3, p4, p5, p6])
             iterate 2 (refine lsA ?_; try simp only [Act.put, p1, p2, p3, p4, p5, p6])
             iterate 9 (refine lsU ?_; try simp only [Act.put, p1, p2, p3, p4, p5, p6])
             iterate 2 (refine lsA ?_; try simp only [Act.put, p1, p2, p3, p4, p5, p6])
             refine wL_nil ?_
             clear z609 z610 z611 z612 z613 z614 z615 z616 z617 z618 z619 z620 z621 z622 z623 z624 z625 z626
             go_wp2_with fail
             have he0 := HEB.out
             try simp only [decide_eq_true_eq, decide_eq_false_iff_not] at he0
             go_ret
             exact ⟨ret_b (by unfold sfOk; have := c519h.out; have := c577h.out; have := c578h.out; have := c579h.out; have := c580h.out; have := c581h.out; have := c582h.out; have := c583h.out; have := c584h.out; have := c585h.out; have := c627h.out; exact (decide_eq_false (by omega)).symm), by first | exact H608.out.below | exact H608.out.below'⟩
           ·
            have c585a : ((yn : Int) == (0)) = false := by simpa using c585
            have c585b : ((yn : Int) != (0)) = true := by simpa using c585
            have c585e : (yn == 0) = false := by simp; omega
            have c585f : (yn != 0) = true := by simp; omega
            have c585h := hid c585
            clear c585
            iterate 5 (refine lsA ?_; try simp only [Act.put, p1, p2, p3, p4, p5, p6])
            iterate 8 (refine lsU ?_; try simp only [Act.put, p1, p2, p3, p4, p5, p6])
            iterate 2 (refine lsA ?_; try simp only [Act.put, p1, p2, p3, p4, p5, p6])
            iterate 7 (refine lsU ?_; try simp only [Act.put, p1, p2, p3, p4, p5, p6])
            iterate 2 (refine lsA ?_; try simp only [Act.put, p1, p2, p3, p4, p5, p6])
            iterate 9 (refine lsU ?_; try simp only [Act.put, p1, p2, p3, p4, p5, p6])
            iterate 2 (refine lsA ?_; try simp only [Act.put, p1, p2, p3, p4, p5, p6])
            refine wL_nil ?_
            clear z559 z560 z561 z562 z563 z564 z565 z566 z567 z568 z569 z570 z571 z572 z573 z574 z575 z576
            go_wp2_with fail
            have he0 := HEB.out
            try simp only [decide_eq_true_eq, decide_eq_false_iff_not] at he0
            go_ret
            exact ⟨ret_b (by unfold sfOk; have := c519h.out; have := c577h.out; have := c578h.out; have := c579h.out; have := c580h.out; have := c581h.out; have := c582h.out; have := c583h.out; have := c584h.out; have := c585h.out; exact (decide_eq_false (by omega)).symm), by first | exact H558.out.below | exact H558.out.below'⟩
          ·
           have c584a : ((xn : Int) == (0)) = false := by simpa using c584
           have c584b : ((xn : Int) != (0)) = true := by simpa using c584
           have c584e : (xn == 0) = false := by simp; omega
           have c584f : (xn != 0) = true := by simp; omega
           have c584h := hid c584
           clear c584
           iterate 2 (refine lsA ?_; try simp only [Act.put, p1, p2, p3, p4, p5, p6])
           iterate 4 (refine lsU ?_; try simp only [Act.put, p1, p2, p3, p4, p5, p6])
           iterate 4 (refine lsA ?_; try simp only [Act.put, p1, p2, p3, p4, p5, p6])
           iterate 8 (refine lsU ?_; try simp only [Act.put, p1, p2, p3, p4, p5, p6])
           iterate 2 (refine lsA ?_; try simp only [Act.put, p1, p2, p3, p4, p5, p6])
           iterate 7 (refine lsU ?_; try simp only [Act.put, p1, p2, p3, p4, p5, p6])
           iterate 2 (refine lsA ?_; try simp only [Act.put, p1, p2, p3, p4, p5, p6])
           iterate 9 (refine lsU ?_; try simp only [Act.put, p1, p2, p3, p4, p5, p6])
           iterate 2 (refine lsA ?_; try simp only [Act.put, p1, p2, p3, p4, p5, p6])
           refine wL_nil ?_
           clear z559 z560 z561 z562 z563 z564 z565 z566 z567 z568 z569 z570 z571 z572 z573 z574 z575 z576
           go_wp2_with fail
           have he0 := HEB.out
           try simp only [decide_eq_true_eq, decide_eq_false_iff_not] at he0
           go_ret
           exact ⟨ret_b (by unfold sfOk; have := c519h.out; have := c577h.out; have := c578h.out; have := c579h.out; have := c580h.out; have := c581h.out; have := c582h.out; have := c583h.out; have := c584h.out; exact (decide_eq_false (by omega)).symm), by first | exact H558.out.below | exact H558.out.below'⟩
         ·
          have c583a : ((sh2 : Int) == (0)) = false := by simpa using c583
          have c583b : ((sh2 : Int) != (0)) = true := by simpa using c583
          have c583h := hid c583
          clear c583
          iterate 4 (refine lsA ?_; try simp only [Act.put, p1, p2, p3, p4, p5, p6])
          iterate 13 (refine lsU ?_; try simp only [Act.put, p1, p2, p3, p4, p5, p6])
          iterate 2 (refine lsA ?_; try simp only [Act.put, p1, p2, p3, p4, p5, p6])
          iterate 8 (refine lsU ?_; try simp only [Act.put, p1, p2, p3, p4, p5, p6])
          iterate 2 (refine lsA ?_; try simp only [Act.put, p1, p2, p3, p4, p5, p6])
          iterate 7 (refine lsU ?_; try simp only [Act.put, p1, p2, p3, p4, p5, p6])
          iterate 2 (refine lsA ?_; try simp only [Act.put, p1, p2, p3, p4, p5, p6])
          iterate 9 (refine lsU ?_; try simp only [Act.put, p1, p2, p3, p4, p5, p6])
          iterate 2 (refine lsA ?_; try simp only [Act.put, p1, p2, p3, p4, p5, p6])
          refine wL_nil ?_
          clear z559 z560 z561 z562 z563 z564 z565 z566 z567 z568 z569 z570 z571 z572 z573 z574 z575 z576
          go_wp2_with fail
          have he0 := HEB.out
          try simp only [decide_eq_true_eq, decide_eq_false_iff_not] at he0
          go_ret
          exact ⟨ret_b (by unfold sfOk; have := c519h.out; have := c577h.out; have := c578h.out; have := c579h.out; have := c580h.out; have := c581h.out; have := c582h.out; have := c583h.out; exact (decide_eq_false (by omega)).symm), by first | exact H558.out.below | exact H558.out.below'⟩
        ·
         have c582a : ((sh : Int) == (0)) = false := by simpa using c582
         have c582b : ((sh : Int) != (0)) = true := by simpa using c582
         have c582h := hid c582
         clear c582
         iterate 4 (refine lsA ?_; try simp only [Act.put, p1, p2, p3, p4, p5, p6])
         iterate 9 (refine lsU ?_; try simp only [Act.put, p1, p2, p3, p4, p5, p6])
         iterate 2 (refine lsA ?_; try simp only [Act.put, p1, p2, p3, p4, p5, p6])
         iterate 13 (refine lsU ?_; try simp only [Act.put, p1, p2, p3, p4, p5, p6])
         iterate 2 (refine lsA ?_; try simp only [Act.put, p1, p2, p3, p4, p5, p6])
         iterate 8 (refine lsU ?_; try simp only [Act.put, p1, p2, p3, p4, p5, p6])
         iterate 2 (refine lsA ?_; try simp only [Act.put, p1, p2, p3, p4, p5, p6])
         iterate 7 (refine lsU ?_; try simp only [Act.put, p1, p2, p3, p4, p5, p6])
         iterate 2 (refine lsA ?_; try simp only [Act.put, p1, p2, p3, p4, p5, p6])
         iterate 9 (refine lsU ?_; try simp only [Act.put, p1, p2, p3, p4, p5, p6])
         iterate 2 (refine lsA ?_; try simp only [Act.put, p1, p2, p3, p4, p5, p6])
         refine wL_nil ?_
         clear z559 z560 z561 z562 z563 z564 z565 z566 z567 z568 z569 z570 z571 z572 z573 z574 z575 z576
         go_wp2_with fail
         have he0 := HEB.out
         try simp only [decide_eq_true_eq, decide_eq_false_iff_not] at he0
         go_ret
         exact ⟨ret_b (by unfold sfOk; have := c519h.out; have := c577h.out; have := c578h.out; have := c579h.out; have := c580h.out; have := c581h.out; have := c582h.out; exact (decide_eq_false (by omega)).symm), by first | exact H558.out.below | exact H558.out.below'⟩
       ·
        have c581a : ((cn : Int) == (0)) = false := by simpa using c581
        have c581b : ((cn : Int) != (0)) = true := by simpa using c581
        have c581e : (cn == 0) = false := by simp; omega
        have c581f : (cn != 0) = true := by simp; omega
        have c581h := hid c581
        clear c581
        iterate 5 (refine lsA ?_; try simp only [Act.put, p1, p2, p3, p4, p5, p6])
        iterate 6 (refine lsU ?_; try simp only [Act.put, p1, p2, p3, p4, p5, p6])
        iterate 2 (refine lsA ?_; try simp only [Act.put, p1, p2, p3, p4, p5, p6])
        iterate 9 (refine lsU ?_; try simp only [Act.put, p1, p2, p3, p4, p5, p6])
        iterate 2 (refine lsA ?_; try simp only [Act.put, p1, p2, p3, p4, p5, p6])
        iterate 13 (refine lsU ?_; try simp only [Act.put, p1, p2, p3, p4, p5, p6])
        iterate 2 (refine lsA ?_; try simp only [Act.put, p1, p2, p3, p4, p5, p6])
        iterate 8 (refine lsU ?_; try simp only [Act.put, p1, p2, p3, p4, p5, p6])
        iterate 2 (refine lsA ?_; try simp only [Act.put, p1, p2, p3, p4, p5, p6])
        iterate 7 (refine lsU ?_; try simp only [Act.put, p1, p2, p3, p4, p5, p6])
        iterate 2 (refine lsA ?_; try simp only [Act.put, p1, p2, p3, p4, p5, p6])
        iterate 9 (refine lsU ?_; try simp only [Act.put, p1, p2, p3, p4, p5, p6])
        iterate 2 (refine lsA ?_; try simp only [Act.put, p1, p2, p3, p4, p5, p6])
        refine wL_nil ?_
        clear z559 z560 z561 z562 z563 z564 z565 z566 z567 z568 z569 z570 z571 z572 z573 z574 z575 z576
        go_wp2_with fail
        have he0 := HEB.out
        try simp only [decide_eq_true_eq, decide_eq_false_iff_not] at he0
        go_ret
        exact ⟨ret_b (by unfold sfOk; have := c519h.out; have := c577h.out; have := c578h.out; have := c579h.out; have := c580h.out; have := c581h.out; exact (decide_eq_false (by omega)).symm), by first | exact H558.out.below | exact H558.out.below'⟩
      ·
       have c580a : ((rn : Int) == (0)) = false := by simpa using c580
       have c580b : ((rn : Int) != (0)) = true := by simpa using c580
       have c580e : (rn == 0) = false := by simp; omega
       have c580f : (rn != 0) = true := by simp; omega
       have c580h := hid c580
       clear c580
       iterate 2 (refine lsA ?_; try simp only [Act.put, p1, p2, p3, p4, p5, p6])
       iterate 4 (refine lsU ?_; try simp only [Act.put, p1, p2, p3, p4, p5, p6])
       iterate 4 (refine lsA ?_; try simp only [Act.put, p1, p2, p3, p4, p5, p6])
       iterate 6 (refine lsU ?_; try simp only [Act.put, p1, p2, p3, p4, p5, p6])
       iterate 2 (refine lsA ?_; try simp only [Act.put, p1, p2, p3, p4, p5, p6])
       iterate 9 (refine lsU ?_; try simp only [Act.put, p1, p2, p3, p4, p5, p6])
       iterate 2 (refine lsA ?_; try simp only [Act.put, p1, p2, p3, p4, p5, p6])
       iterate 13 (refine lsU ?_; try simp only [Act.put, p1, p2, p3, p4, p5, p6])
       iterate 2 (refine lsA ?_; try simp only [Act.put, p1, p2, p3, p4, p5, p6])
       iterate 8 (refine lsU ?_; try simp only [Act.put, p1, p2, p3, p4, p5, p6])
       iterate 2 (refine lsA ?_; try simp only [Act.put, p1, p2, p3, p4, p5, p6])
       iterate 7 (refine lsU ?_; try simp only [Act.put, p1, p2, p3, p4, p5, p6])
       iterate 2 (refine lsA ?_; try simp only [Act.put, p1, p2, p3, p4, p5, p6])
       iterate 9 (refine lsU ?_; try simp only [Act.put, p1, p2, p3, p4, p5, p6])
       iterate 2 (refine lsA ?_; try simp only [Act.put, p1, p2, p3, p4, p5, p6])
       refine wL_nil ?_
       clear z559 z560 z561 z562 z563 z564 z565 z566 z567 z568 z569 z570 z571 z572 z573 z574 z575 z576
       go_wp2_with fail
       have he0 := HEB.out
       try simp only [decide_eq_true_eq, decide_eq_false_iff_not] at he0
       go_ret
       exact ⟨ret_b (by unfold sfOk; have := c519h.out; have := c577h.out; have := c578h.out; have := c579h.out; have := c580h.out; exact (decide_eq_false (by omega)).symm), by first | exact H558.out.below | exact H558.out.below'⟩
     ·
      have c579a : ((wn : Int) == (0)) = false := by simpa using c579
      have c579b : ((wn : Int) != (0)) = true := by simpa using c579
      have c579e : (wn == 0) = false := by simp; omega
      have c579f : (wn != 0) = true := by simp; omega
      have c579h := hid c579
      clear c579
      iterate 5 (refine lsA ?_; try simp only [Act.put, p1, p2, p3, p4, p5, p6])
      iterate 13 (refine lsU ?_; try simp only [Act.put, p1, p2, p3, p4, p5, p6])
      iterate 2 (refine lsA ?_; try simp only [Act.put, p1, p2, p3, p4, p5, p6])
      iterate 6 (refine lsU ?_; try simp only [Act.put, p1, p2, p3, p4, p5, p6])
      iterate 2 (refine lsA ?_; try simp only [Act.put, p1, p2, p3, p4, p5, p6])
      iterate 9 (refine lsU ?_; try simp only [Act.put, p1, p2, p3, p4, p5, p6])
      iterate 2 (refine lsA ?_; try simp only [Act.put, p1, p2, p3, p4, p5, p6])
      iterate 13 (refine lsU ?_; try simp only [Act.put, p1, p2, p3, p4, p5, p6])
      iterate 2 (refine lsA ?_; try simp only [Act.put, p1, p2, p3, p4, p5, p6])
      iterate 8 (refine lsU ?_; try simp only [Act.put, p1, p2, p3, p4, p5, p6])
      iterate 2 (refine lsA ?_; try simp only [Act.put, p1, p2, p3, p4, p5, p6])
      iterate 7 (refine lsU ?_; try simp only [Act.put, p1, p2, p3, p4, p5, p6])
      iterate 2 (refine lsA ?_; try simp only [Act.put, p1, p2, p3, p4, p5, p6])
      iterate 9 (refine lsU ?_; try simp only [Act.put, p1, p2, p3, p4, p5, p6])
      iterate 2 (refine lsA ?_; try simp only [Act.put, p1, p2, p3, p4, p5, p6])
      refine wL_nil ?_
      clear z559 z560 z561 z562 z563 z564 z565 z566 z567 z568 z569 z570 z571 z572 z573 z574 z575 z576
      go_wp2_with fail
      have he0 := HEB.out
      try simp only [decide_eq_true_eq, decide_eq_false_iff_not] at he0
      go_ret
      exact ⟨ret_b (by unfold sfOk; have := c519h.out; have := c577h.out; have := c578h.out; have := c579h.out; exact (decide_eq_false (by omega)).symm), by first | exact H558.out.below | exact H558.out.below'⟩
    ·
     have c578a : ((kh : Int) == (0)) = false := by simpa using c578
     have c578b : ((kh : Int) != (0)) = true := by simpa using c578
     have c578h := hid c578
     clear c578
     iterate 3 (refine lsA ?_; try simp only [Act.put, p1, p2, p3, p4, p5, p6])
     iterate 4 (refine lsU ?_; try simp only [Act.put, p1, p2, p3, p4, p5, p6])
     iterate 4 (refine lsA ?_; try simp only [Act.put, p1, p2, p3, p4, p5, p6])
     iterate 13 (refine lsU ?_; try simp only [Act.put, p1, p2, p3, p4, p5, p6])
     iterate 2 (refine lsA ?_; try simp only [Act.put, p1, p2, p3, p4, p5, p6])
     iterate 6 (refine lsU ?_; try simp only [Act.put, p1, p2, p3, p4, p5, p6])
     iterate 2 (refine lsA ?_; try simp only [Act.put, p1, p2, p3, p4, p5, p6])
     iterate 9 (refine lsU ?_; try simp only [Act.put, p1, p2, p3, p4, p5, p6])
     iterate 2 (refine lsA ?_; try simp only [Act.put, p1, p2, p3, p4, p5, p6])
     iterate 13 (refine lsU ?_; try simp only [Act.put, p1, p2, p3, p4, p5, p6])
     iterate 2 (refine lsA ?_; try simp only [Act.put, p1, p2, p3, p4, p5, p6])
     iterate 8 (refine lsU ?_; try simp only [Act.put, p1, p2, p3, p4, p5, p6])
     iterate 2 (refine lsA ?_; try simp only [Act.put, p1, p2, p3, p4, p5, p6])
     iterate 7 (refine lsU ?_; try simp only [Act.put, p1, p2, p3, p4, p5, p6])
     iterate 2 (refine lsA ?_; try simp only [Act.put, p1, p2, p3, p4, p5, p6])
     iterate 9 (refine lsU ?_; try simp only [Act.put, p1, p2, p3, p4, p5, p6])
     iterate 2 (refine lsA ?_; try simp only [Act.put, p1, p2, p3, p4, p5, p6])
     refine wL_nil ?_
     clear z559 z560 z561 z562 z563 z564 z565 z566 z567 z568 z569 z570 z571 z572 z573 z574 z575 z576
     go_wp2_with fail
     have he0 := HEB.out
     try simp only [decide_eq_true_eq, decide_eq_false_iff_not] at he0
     go_ret
     exact ⟨ret_b (by unfold sfOk; have := c519h.out; have := c577h.out; have := c578h.out; exact (decide_eq_false (by omega)).symm), by first | exact H558.out.below | exact H558.out.below'⟩
   ·
    have c577a : ((kw : Int) == (0)) = false := by simpa using c577
    have c577b : ((kw : Int) != (0)) = true := by simpa using c577
    have c577h := hid c577
    clear c577
    iterate 2 (refine lsA ?_; try simp only [Act.put, p1, p2, p3, p4, p5, p6])
    iterate 3 (refine lsU ?_; try simp only [Act.put, p1, p2, p3, p4, p5, p6])
    iterate 2 (refine lsA ?_; try simp only [Act.put, p1, p2, p3, p4, p5, p6])
    iterate 4 (refine lsU ?_; try simp only [Act.put, p1, p2, p3, p4, p5, p6])
    iterate 4 (refine lsA ?_; try simp only [Act.put, p1, p2, p3, p4, p5, p6])
    iterate 13 (refine lsU ?_; try simp only [Act.put, p1, p2, p3, p4, p5, p6])
    iterate 2 (refine lsA ?_; try simp only [Act.put, p1, p2, p3, p4, p5, p6])
    iterate 6 (refine lsU ?_; try simp only [Act.put, p1, p2, p3, p4, p5, p6])
    iterate 2 (refine lsA ?_; try simp only [Act.put, p1, p2, p3, p4, p5, p6])
    iterate 9 (refine lsU ?_; try simp only [Act.put, p1, p2, p3, p4, p5, p6])
    iterate 2 (refine lsA ?_; try simp only [Act.put, p1, p2, p3, p4, p5, p6])
    iterate 13 (refine lsU ?_; try simp only [Act.put, p1, p2, p3, p4, p5, p6])
    iterate 2 (refine lsA ?_; try simp only [Act.put, p1, p2, p3, p4, p5, p6])
    iterate 8 (refine lsU ?_; try simp only [Act.put, p1, p2, p3, p4, p5, p6])
    iterate 2 (refine lsA ?_; try simp only [Act.put, p1, p2, p3, p4, p5, p6])
    iterate 7 (refine lsU ?_; try simp only [Act.put, p1, p2, p3, p4, p5, p6])
    iterate 2 (refine lsA ?_; try simp only [Act.put, p1, p2, p3, p4, p5, p6])
    iterate 9 (refine lsU ?_; try simp only [Act.put, p1, p2, p3, p4, p5, p6])
    iterate 2 (refine lsA ?_; try simp only [Act.put, p1, p2, p3, p4, p5, p6])
    refine wL_nil ?_
    clear z559 z560 z561 z562 z563 z564 z565 z566 z567 z568 z569 z570 z571 z572 z573 z574 z575 z576
    go_wp2_with fail
    have he0 := HEB.out
    try simp only [decide_eq_true_eq, decide_eq_false_iff_not] at he0
    go_ret
    exact ⟨ret_b (by unfold sfOk; have := c519h.out; have := c577h.out; exact (decide_eq_false (by omega)).symm), by first | exact H558.out.below | exact H558.out.below'⟩
  | false =>
   iterate 3 (refine lsA ?_; try simp only [Act.put, p1, p2, p3, p4, p5, p6])
   iterate 17 (refine lsU ?_; try simp only [Act.put, p1, p2, p3, p4, p5, p6])
   iterate 2 (refine lsA ?_; try simp only [Act.put, p1, p2, p3, p4, p5, p6])
   iterate 13 (refine lsU ?_; try simp only [Act.put, p1, p2, p3, p4, p5, p6])
   iterate 2 (refine lsA ?_; try simp only [Act.put, p1, p2, p3, p4, p5, p6])
   iterate 6 (refine lsU ?_; try simp only [Act.put, p1, p2, p3, p4, p5, p6])
   iterate 2 (refine lsA ?_; try simp only [Act.put, p1, p2, p3, p4, p5, p6])
   iterate 9 (refine lsU ?_; try simp only [Act.put, p1, p2, p3, p4, p5, p6])
   iterate 2 (refine lsA ?_; try simp only [Act.put, p1, p2, p3, p4, p5, p6])
   iterate 13 (refine lsU ?_; try simp only [Act.put, p1, p2, p3, p4, p5, p6])
   iterate 2 (refine lsA ?_; try simp only [Act.put, p1, p2, p3, p4, p5, p6])
   iterate 8 (refine lsU ?_; try simp only [Act.put, p1, p2, p3, p4, p5, p6])
   iterate 2 (refine lsA ?_; try simp only [Act.put, p1, p2, p3, p4, p5, p6])
   iterate 7 (refine lsU ?_; try simp only [Act.put, p1, p2, p3, p4, p5, p6])
   iterate 2 (refine lsA ?_; try simp only [Act.put, p1, p2, p3, p4, p5, p6])
   iterate 9 (refine lsU ?_; try simp only [Act.put, p1, p2, p3, p4, p5, p6])
   iterate 2 (refine lsA ?_; try simp only [Act.put, p1, p2, p3, p4, p5, p6])
   refine wL_nil ?_
   clear z559 z560 z561 z562 z563 z564 z565 z566 z567 z568 z569 z570 z571 z572 z573 z574 z575 z576
   go_wp2_with fail
   have he0 := HEB.out
   try simp only [decide_eq_true_eq, decide_eq_false_iff_not] at he0
   go_ret
   exact ⟨ret_b (by unfold sfOk; have := c519h.out; exact (decide_eq_false (by omega)).symm), by first | exact H558.out.below | exact H558.out.below'⟩
 ·
  have c519a : ((sb : Int) == ((-1))) = false := by simpa using c519
  have c519b : ((sb : Int) != ((-1))) = true := by simpa using c519
  have c519h := hid c519
  clear c519
  obtain ⟨z630, z631, z632, z633, z634, z635, z636, z637, z638, z639, z640, z641, z642, z643, z644, z645, z646, z647⟩ := cs18 H517.out 0 rfl
  go_wp2_with fail
  clear z630 z631 z632 z633 z634 z635 z636 z637 z638 z639 z640 z641 z642 z643 z644 z645 z646 z647
  have he0 := HEB.out
  try simp only [decide_eq_true_eq, decide_eq_false_iff_not] at he0
  go_ret
  exact ⟨ret_b (by unfold sfOk; have := c519h.out; exact (decide_eq_false (by omega)).symm), by first | exact H517.out.below | exact H517.out.below'⟩
end Go.Proofs.Yteejjnhlfgjlaaa
