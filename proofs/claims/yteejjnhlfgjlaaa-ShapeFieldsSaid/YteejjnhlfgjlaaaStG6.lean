/-
 Contract: which fields a stage may use, in the program, at the kind 6.
-/
import Derived.Test.YteejjnhlfgjlaaaStF
import Derived.Test.YteejjnhlfgjlaaaKH
namespace Go.Proofs.Yteejjnhlfgjlaaa
open Go.RowKit
attribute [local go_sem ↓] Go.wp_at_zero Go.wp_at_succ edge_eq edge_ne
set_option linter.unusedVariables false
set_option linter.unusedSimpArgs false

set_option maxRecDepth 100000 in
set_option maxHeartbeats 6400000 in
theorem sfields_6 (sa sb : Int) (bar : Bool) (ep ef kw kh : Int) (wa : Option Addr) (wn wc : Nat) (ra : Option Addr) (rn rc : Nat) (ca : Option Addr) (cn cc : Nat) (sh sh2 : Int) (xa : Option Addr) (xn xc : Nat) (ya : Option Addr) (yn yc : Nat) (bins : Int) (oa : Option Addr) (on oc : Nat) (mx : Int) (W : World) : Calls Try.prog 11 #[.agg #[.int .i64 6, .int .i64 sa, .int .i64 sb, .bool bar, .int .i64 ep, .int .i64 ef, .int .i64 kw, .int .i64 kh, .slice wa wn wc, .slice ra rn rc, .slice ca cn cc, .int .i64 sh, .int .i64 sh2, .slice xa xn xc, .slice ya yn yc, .int .i64 bins, .slice oa on oc, .int .i64 mx]] W fun e w' => e = .returned (.bool (sfOk 6 sb ep ef kw kh wn rn cn sh sh2 xn yn bins on mx)) ∧ Below W.heap.size W w' := by
 obtain ⟨B, hB⟩ : ∃ B, W.heap.size = B := ⟨_, rfl⟩
 have HI0 := hid (St.init hB)
 obtain ⟨eb, heb⟩ : ∃ x, decide (ep = 0 ∧ ef = 0) = x := ⟨_, rfl⟩
 have HEB := hid heb
 go_enter Try.func11, Try.ntmps11
 go_upto_region 1 with fail
 have H648 := hid (HI0.out.alloc #[.int .i64 6, .int .i64 sa, .int .i64 sb, .bool bar, .int .i64 ep, .int .i64 ef, .int .i64 kw, .int .i64 kh, .slice wa wn wc, .slice ra rn rc, .slice ca cn cc, .int .i64 sh, .int .i64 sh2, .slice xa xn xc, .slice ya yn yc, .int .i64 bins, .slice oa on oc, .int .i64 mx] 33 hB)
 first | refine gen_code H648.out ?_ | refine gen_list H648.out ?_ | refine gen_calls H648.out ?_
 intro w649 hG
 clear H648
 have H648 := hid hG
 clear hG
 obtain ⟨z650, z651, z652, z653, z654, z655, z656, z657, z658, z659, z660, z661, z662, z663, z664, z665, z666, z667⟩ := cs18 H648.out 0 rfl
 go_wp2_with fail
 clear z650 z651 z652 z653 z654 z655 z656 z657 z658 z659 z660 z661 z662 z663 z664 z665 z666 z667
 refine (edged_any _ _).mono ?_
 rintro e w668 ⟨rfl, hsw⟩
 have hsw2 : w649 = w668 := by first | exact hsw | exact hsw.symm
 clear hsw
 subst hsw2
 rw [show edOk 6 = false from by decide]
 obtain ⟨D669, hD669⟩ : ∃ D, w649.heap.size = D := ⟨_, rfl⟩
 go_wp2_with fail
 have H670 := hid (H648.out.alloc #[.int .i64 1] 3 hD669)
 first | refine gen_code H670.out ?_ | refine gen_list H670.out ?_ | refine gen_calls H670.out ?_
 intro w671 hG
 clear H670
 have H670 := hid hG
 clear hG
 clear hD669
 refine (is_any _ _ _ [1] B _ _ (H670.out.lit 0 [1] rfl (by simp)) (by decide) (hid (H670.out.cell 1 rfl 0 rfl))).mono ?_
 rintro e w672 ⟨rfl, hb⟩
 have H673 := hid (H670.out.call hb)
 clear hb
 rw [show isIn 6 [1] = false from by decide]
 obtain ⟨D674, hD674⟩ : ∃ D, w672.heap.size = D := ⟨_, rfl⟩
 go_wp2_with fail
 have H675 := hid (H673.out.alloc #[.int .i64 2] 3 hD674)
 first | refine gen_code H675.out ?_ | refine gen_list H675.out ?_ | refine gen_calls H675.out ?_
 intro w676 hG
 clear H675
 have H675 := hid hG
 clear hG
 clear hD674
 refine (is_any _ _ _ [2] B _ _ (H675.out.lit 0 [2] rfl (by simp)) (by decide) (hid (H675.out.cell 2 rfl 0 rfl))).mono ?_
 rintro e w677 ⟨rfl, hb⟩
 have H678 := hid (H675.out.call hb)
 clear hb
 rw [show isIn 6 [2] = false from by decide]
 obtain ⟨D679, hD679⟩ : ∃ D, w677.heap.size = D := ⟨_, rfl⟩
 go_wp2_with fail
 have H680 := hid (H678.out.alloc #[.int .i64 3] 3 hD679)
 first | refine gen_code H680.out ?_ | refine gen_list H680.out ?_ | refine gen_calls H680.out ?_
 intro w681 hG
 clear H680
 have H680 := hid hG
 clear hG
 clear hD679
 refine (is_any _ _ _ [3] B _ _ (H680.out.lit 0 [3] rfl (by simp)) (by decide) (hid (H680.out.cell 3 rfl 0 rfl))).mono ?_
 rintro e w682 ⟨rfl, hb⟩
 have H683 := hid (H680.out.call hb)
 clear hb
 rw [show isIn 6 [3] = false from by decide]
 obtain ⟨D684, hD684⟩ : ∃ D, w682.heap.size = D := ⟨_, rfl⟩
 go_wp2_with fail
 have H685 := hid (H683.out.alloc #[.int .i64 6] 3 hD684)
 first | refine gen_code H685.out ?_ | refine gen_list H685.out ?_ | refine gen_calls H685.out ?_
 intro w686 hG
 clear H685
 have H685 := hid hG
 clear hG
 clear hD684
 refine (is_any _ _ _ [6] B _ _ (H685.out.lit 0 [6] rfl (by simp)) (by decide) (hid (H685.out.cell 4 rfl 0 rfl))).mono ?_
 rintro e w687 ⟨rfl, hb⟩
 have H688 := hid (H685.out.call hb)
 clear hb
 rw [show isIn 6 [6] = true from by decide]
 go_upto_region 11 with fail
 first | refine wp_region_lit (wL_to ?_) | refine wp_seq (wp_region_lit (wL_to ?_))
 obtain ⟨z689, z690, z691, z692, z693, z694, z695, z696, z697, z698, z699, z700, z701, z702, z703, z704, z705, z706⟩ := cs18 H688.out 4 rfl
 iterate 5 (refine lsA ?_; try simp only [Act.put, p1, p2, p3, p4, p5, p6])
 cases eb with
 | true =>
  iterate 7 (refine lsA ?_; try simp only [Act.put, p1, p2, p3, p4, p5, p6])
  by_cases c707 : (kw : Int) = 0
  ·
   obtain ⟨c707c, c707d⟩ : (kw : Int) ≤ 0 ∧ (0 : Int) ≤ kw := by omega
   have c707a : ((kw : Int) == (0)) = true := by simpa using c707
   have c707b : ((kw : Int) != (0)) = false := by simpa using c707
   have c707h := hid c707
   clear c707
   iterate 4 (refine lsA ?_; try simp only [Act.put, p1, p2, p3, p4, p5, p6])
   by_cases c708 : (kh : Int) = 0
   ·
    obtain ⟨c708c, c708d⟩ : (kh : Int) ≤ 0 ∧ (0 : Int) ≤ kh := by omega
    have c708a : ((kh : Int) == (0)) = true := by simpa using c708
    have c708b : ((kh : Int) != (0)) = false := by simpa using c708
    have c708h := hid c708
    clear c708
    iterate 6 (refine lsA ?_; try simp only [Act.put, p1, p2, p3, p4, p5, p6])
    by_cases c709 : (wn : Int) = 0
    ·
     obtain ⟨c709c, c709d⟩ : (wn : Int) ≤ 0 ∧ (0 : Int) ≤ wn := by omega
     have c709a : ((wn : Int) == (0)) = true := by simpa using c709
     have c709b : ((wn : Int) != (0)) = false := by simpa using c709
     have c709e : (wn == 0) = true := by simp; omega
     have c709f : (wn != 0) = false := by simp; omega
     have c709h := hid c709
     clear c709
     iterate 10 (refine lsA ?_; try simp only [Act.put, p1, p2, p3, p4, p5, p6])
     by_cases c710 : (rn : Int) = 0
     ·
      obtain ⟨c710c, c710d⟩ : (rn : Int) ≤ 0 ∧ (0 : Int) ≤ rn := by omega
      have c710a : ((rn : Int) == (0)) = true := by simpa using c710
      have c710b : ((rn : Int) != (0)) = false := by simpa using c710
      have c710e : (rn == 0) = true := by simp; omega
      have c710f : (rn != 0) = false := by simp; omega
      have c710h := hid c710
      clear c710
      iterate 5 (refine lsA ?_; try simp only [Act.put, p1, p2, p3, p4, p5, p6])
      by_cases c711 : (cn : Int) = 0
      ·
       obtain ⟨c711c, c711d⟩ : (cn : Int) ≤ 0 ∧ (0 : Int) ≤ cn := by omega
       have c711a : ((cn : Int) == (0)) = true := by simpa using c711
       have c711b : ((cn : Int) != (0)) = false := by simpa using c711
       have c711e : (cn == 0) = true := by simp; omega
       have c711f : (cn != 0) = false := by simp; omega
       have c711h := hid c711
       clear c711
       iterate 9 (refine lsA ?_; try simp only [Act.put, p1, p2, p3, p4, p5, p6])
       by_cases c712 : (sh : Int) = 0
       ·
        obtain ⟨c712c, c712d⟩ : (sh : Int) ≤ 0 ∧ (0 : Int) ≤ sh := by omega
        have c712a : ((sh : Int) == (0)) = true := by simpa using c712
        have c712b : ((sh : Int) != (0)) = false := by simpa using c712
        have c712h := hid c712
        clear c712
        iterate 11 (refine lsA ?_; try simp only [Act.put, p1, p2, p3, p4, p5, p6])
        by_cases c713 : (sh2 : Int) = 0
        ·
         obtain ⟨c713c, c713d⟩ : (sh2 : Int) ≤ 0 ∧ (0 : Int) ≤ sh2 := by omega
         have c713a : ((sh2 : Int) == (0)) = true := by simpa using c713
         have c713b : ((sh2 : Int) != (0)) = false := by simpa using c713
         have c713h := hid c713
         clear c713
         iterate 9 (refine lsA ?_; try simp only [Act.put, p1, p2, p3, p4, p5, p6])
         by_cases c714 : (xn : Int) = 0
         ·
          obtain ⟨c714c, c714d⟩ : (xn : Int) ≤ 0 ∧ (0 : Int) ≤ xn := by omega
          have c714a : ((xn : Int) == (0)) = true := by simpa using c714
          have c714b : ((xn : Int) != (0)) = false := by simpa using c714
          have c714e : (xn == 0) = true := by simp; omega
          have c714f : (xn != 0) = false := by simp; omega
          have c714h := hid c714
          clear c714
          iterate 5 (refine lsA ?_; try simp only [Act.put, p1, p2, p3, p4, p5, p6])
          by_cases c715 : (yn : Int) = 0
          ·
           obtain ⟨c715c, c715d⟩ : (yn : Int) ≤ 0 ∧ (0 : Int) ≤ yn := by omega
           have c715a : ((yn : Int) == (0)) = true := by simpa using c715
           have c715b : ((yn : Int) != (0)) = false := by simpa using c715
           have c715e : (yn == 0) = true := by simp; omega
           have c715f : (yn != 0) = false := by simp; omega
           have c715h := hid c715
           clear c715
           iterate 6 (refine lsA ?_; try simp only [Act.put, p1, p2, p3, p4, p5, p6])
           obtain ⟨D716, hD716⟩ : ∃ D, w687.heap.size = D := ⟨_, rfl⟩
           refine lsB ?_
           try simp only [Act.put, p1, p2, p3, p4, p5, p6]
           have H717 := hid (H688.out.alloc #[.int .i64 4] 3 hD716)
           clear hD716
           generalize (w687.alloc (.cells #[.int .i64 4] 3)) = k718 at *
           clear z689 z690 z691 z692 z693 z694 z695 z696 z697 z698 z699 z700 z701 z702 z703 z704 z705 z706
           obtain ⟨z719, z720, z721, z722, z723, z724, z725, z726, z727, z728, z729, z730, z731, z732, z733, z734, z735, z736⟩ := cs18 H717.out 5 rfl
           refine lsC ?_
           refine (is_any _ _ _ [4] B _ _ (H717.out.lit 0 [4] rfl (by simp)) (by decide) (hid (H717.out.cell 5 rfl 0 rfl))).mono ?_
           rintro e w737 ⟨rfl, hb⟩
           have H738 := hid (H717.out.call hb)
           clear hb
           rw [show isIn 6 [4] = false from by decide]
           refine ⟨_, rfl, ?_⟩
           try simp only [Act.put, p1, p2, p3, p4, p5, p6]
           clear z719 z720 z721 z722 z723 z724 z725 z726 z727 z728 z729 z730 z731 z732 z733 z734 z735 z736
           obtain ⟨z739, z740, z741, z742, z743, z744, z745, z746, z747, z748, z749, z750, z751, z752, z753, z754, z755, z756⟩ := cs18 H738.out 5 rfl
           iterate 3 (refine lsA ?_; try simp only [Act.put, p1, p2, p3, p4, p5, p6])
           by_cases c757 : (bins : Int) = 0
           ·
            obtain ⟨c757c, c757d⟩ : (bins : Int) ≤ 0 ∧ (0 : Int) ≤ bins := by omega
            have c757a : ((bins : Int) == (0)) = true := by simpa using c757
            have c757b : ((bins : Int) != (0)) = false := by simpa using c757
            have c757h := hid c757
            clear c757
            iterate 6 (refine lsA ?_; try simp only [Act.put, p1, p2, p3, p4, p5, p6])
            iterate 4 (refine lsU ?_; try simp only [Act.put, p1, p2, p3, p4, p5, p6])
            iterate 8 (refine lsA ?_; try simp only [Act.put, p1, p2, p3, p4, p5, p6])
            iterate 3 (refine lsU ?_; try simp only [Act.put, p1, p2, p3, p4, p5, p6])
            iterate 3 (refine lsA ?_; try simp only [Act.put, p1, p2, p3, p4, p5, p6])
            refine wL_nil ?_
            clear z739 z740 z741 z742 z743 z744 z745 z746 z747 z748 z749 z750 z751 z752 z753 z754 z755 z756
            go_wp2_with fail
            have he0 := HEB.out
            try simp only [decide_eq_true_eq, decide_eq_false_iff_not] at he0
            go_ret
            exact ⟨ret_b (by unfold sfOk; have := c707h.out; have := c708h.out; have := c709h.out; have := c710h.out; have := c711h.out; have := c712h.out; have := c713h.out; have := c714h.out; have := c715h.out; have := c757h.out; exact (decide_eq_true (by omega)).symm), by first | exact H738.out.below | exact H738.out.below'⟩
           ·
            have c757a : ((bins : Int) == (0)) = false := by simpa using c757
            have c757b : ((bins : Int) != (0)) = true := by simpa using c757
            have c757h := hid c757
            clear c757
            iterate 4 (refine lsA ?_; try simp only [Act.put, p1, p2, p3, p4, p5, p6])
            iterate 7 (refine lsU ?_; try simp only [Act.put, p1, p2, p3, p4, p5, p6])
            iterate 2 (refine lsA ?_; try simp only [Act.put, p1, p2, p3, p4, p5, p6])
            iterate 9 (refine lsU ?_; try simp only [Act.put, p1, p2, p3, p4, p5, p6])
            iterate 2 (refine lsA ?_; try simp only [Act.put, p1, p2, p3, p4, p5, p6])
            refine wL_nil ?_
            clear z739 z740 z741 z742 z743 z744 z745 z746 z747 z748 z749 z750 z751 z752 z753 z754 z755 z756
            go_wp2_with fail
            have he0 := HEB.out
            try simp only [decide_eq_true_eq, decide_eq_false_iff_not] at he0
            go_ret
            exact ⟨ret_b (by unfold sfOk; have := c707h.out; have := c708h.out; have := c709h.out; have := c710h.out; have := c711h.out; have := c712h.out; have := c713h.out; have := c714h.out; have := c715h.out; have := c757h.out; exact (decide_eq_false (by omega)).symm), by first | exact H738.out.below | exact H738.out.below'⟩
          ·
           have c715a : ((yn : Int) == (0)) = false := by simpa using c715
           have c715b : ((yn : Int) != (0)) = true := by simpa using c715
           have c715e : (yn == 0) = false := by simp; omega
           have c715f : (yn != 0) = true := by simp; omega
           have c715h := hid c715
           clear c715
           iterate 5 (refine lsA ?_; try simp only [Act.put, p1, p2, p3, p4, p5, p6])
           iterate 8 (refine lsU ?_; try simp only [Act.put, p1, p2, p3, p4, p5, p6])
           iterate 2 (refine lsA ?_; try simp only [Act.put, p1, p2, p3, p4, p5, p6])
           iterate 7 (refine lsU ?_; try simp only [Act.put, p1, p2, p3, p4, p5, p6])
           iterate 2 (refine lsA ?_; try simp only [Act.put, p1, p2, p3, p4, p5, p6])
           iterate 9 (refine lsU ?_; try simp only [Act.put, p1, p2, p3, p4, p5, p6])
           iterate 2 (refine lsA ?_; try simp only [Act.put, p1, p2, p3, p4, p5, p6])
           refine wL_nil ?_
           clear z689 z690 z691 z692 z693 z694 z695 z696 z697 z698 z699 z700 z701 z702 z703 z704 z705 z706
           go_wp2_with fail
           have he0 := HEB.out
           try simp only [decide_eq_true_eq, decide_eq_false_iff_not] at he0
           go_ret
           exact ⟨ret_b (by unfold sfOk; have := c707h.out; have := c708h.out; have := c709h.out; have := c710h.out; have := c711h.out; have := c712h.out; have := c713h.out; have := c714h.out; have := c715h.out; exact (decide_eq_false (by omega)).symm), by first | exact H688.out.below | exact H688.out.below'⟩
         ·
          have c714a : ((xn : Int) == (0)) = false := by simpa using c714
          have c714b : ((xn : Int) != (0)) = true := by simpa using c714
          have c714e : (xn == 0) = false := by simp; omega
          have c714f : (xn != 0) = true := by simp; omega
          have c714h := hid c714
          clear c714
          iterate 2 (refine lsA ?_; try simp only [Act.put, p1, p2, p3, p4, p5, p6])
          iterate 4 (refine lsU ?_; try simp only [Act.put, p1, p2, p3, p4, p5, p6])
          iterate 4 (refine lsA ?_; try simp only [Act.put, p1, p2, p3, p4, p5, p6])
          iterate 8 (refine lsU ?_; try simp only [Act.put, p1, p2, p3, p4, p5, p6])
          iterate 2 (refine lsA ?_; try simp only [Act.put, p1, p2, p3, p4, p5, p6])
          iterate 7 (refine lsU ?_; try simp only [Act.put, p1, p2, p3, p4, p5, p6])
          iterate 2 (refine lsA ?_; try simp only [Act.put, p1, p2, p3, p4, p5, p6])
          iterate 9 (refine lsU ?_; try simp only [Act.put, p1, p2, p3, p4, p5, p6])
          iterate 2 (refine lsA ?_; try simp only [Act.put, p1, p2, p3, p4, p5, p6])
          refine wL_nil ?_
          clear z689 z690 z691 z692 z693 z694 z695 z696 z697 z698 z699 z700 z701 z702 z703 z704 z705 z706
          go_wp2_with fail
          have he0 := HEB.out
          try simp only [decide_eq_true_eq, decide_eq_false_iff_not] at he0
          go_ret
          exact ⟨ret_b (by unfold sfOk; have := c707h.out; have := c708h.out; have := c709h.out; have := c710h.out; have := c711h.out; have := c712h.out; have := c713h.out; have := c714h.out; exact (decide_eq_false (by omega)).symm), by first | exact H688.out.below | exact H688.out.below'⟩
        ·
         have c713a : ((sh2 : Int) == (0)) = false := by simpa using c713
         have c713b : ((sh2 : Int) != (0)) = true := by simpa using c713
         have c713h := hid c713
         clear c713
         iterate 4 (refine lsA ?_; try simp only [Act.put, p1, p2, p3, p4, p5, p6])
         iterate 13 (refine lsU ?_; try simp only [Act.put, p1, p2, p3, p4, p5, p6])
         iterate 2 (refine lsA ?_; try simp only [Act.put, p1, p2, p3, p4, p5, p6])
         iterate 8 (refine lsU ?_; try simp only [Act.put, p1, p2, p3, p4, p5, p6])
         iterate 2 (refine lsA ?_; try simp only [Act.put, p1, p2, p3, p4, p5, p6])
         iterate 7 (refine lsU ?_; try simp only [Act.put, p1, p2, p3, p4, p5, p6])
         iterate 2 (refine lsA ?_; try simp only [Act.put, p1, p2, p3, p4, p5, p6])
         iterate 9 (refine lsU ?_; try simp only [Act.put, p1, p2, p3, p4, p5, p6])
         iterate 2 (refine lsA ?_; try simp only [Act.put, p1, p2, p3, p4, p5, p6])
         refine wL_nil ?_
         clear z689 z690 z691 z692 z693 z694 z695 z696 z697 z698 z699 z700 z701 z702 z703 z704 z705 z706
         go_wp2_with fail
         have he0 := HEB.out
         try simp only [decide_eq_true_eq, decide_eq_false_iff_not] at he0
         go_ret
         exact ⟨ret_b (by unfold sfOk; have := c707h.out; have := c708h.out; have := c709h.out; have := c710h.out; have := c711h.out; have := c712h.out; have := c713h.out; exact (decide_eq_false (by omega)).symm), by first | exact H688.out.below | exact H688.out.below'⟩
       ·
        have c712a : ((sh : Int) == (0)) = false := by simpa using c712
        have c712b : ((sh : Int) != (0)) = true := by simpa using c712
        have c712h := hid c712
        clear c712
        iterate 4 (refine lsA ?_; try simp only [Act.put, p1, p2, p3, p4, p5, p6])
        iterate 9 (refine lsU ?_; try simp only [Act.put, p1, p2, p3, p4, p5, p6])
        iterate 2 (refine lsA ?_; try simp only [Act.put, p1, p2, p3, p4, p5, p6])
        iterate 13 (refine lsU ?_; try simp only [Act.put, p1, p2, p3, p4, p5, p6])
        iterate 2 (refine lsA ?_; try simp only [Act.put, p1, p2, p3, p4, p5, p6])
        iterate 8 (refine lsU ?_; try simp only [Act.put, p1, p2, p3, p4, p5, p6])
        iterate 2 (refine lsA ?_; try simp only [Act.put, p1, p2, p3, p4, p5, p6])
        iterate 7 (refine lsU ?_; try simp only [Act.put, p1, p2, p3, p4, p5, p6])
        iterate 2 (refine lsA ?_; try simp only [Act.put, p1, p2, p3, p4, p5, p6])
        iterate 9 (refine lsU ?_; try simp only [Act.put, p1, p2, p3, p4, p5, p6])
        iterate 2 (refine lsA ?_; try simp only [Act.put, p1, p2, p3, p4, p5, p6])
        refine wL_nil ?_
        clear z689 z690 z691 z692 z693 z694 z695 z696 z697 z698 z699 z700 z701 z702 z703 z704 z705 z706
        go_wp2_with fail
        have he0 := HEB.out
        try simp only [decide_eq_true_eq, decide_eq_false_iff_not] at he0
        go_ret
        exact ⟨ret_b (by unfold sfOk; have := c707h.out; have := c708h.out; have := c709h.out; have := c710h.out; have := c711h.out; have := c712h.out; exact (decide_eq_false (by omega)).symm), by first | exact H688.out.below | exact H688.out.below'⟩
      ·
       have c711a : ((cn : Int) == (0)) = false := by simpa using c711
       have c711b : ((cn : Int) != (0)) = true := by simpa using c711
       have c711e : (cn == 0) = false := by simp; omega
       have c711f : (cn != 0) = true := by simp; omega
       have c711h := hid c711
       clear c711
       iterate 5 (refine lsA ?_; try simp only [Act.put, p1, p2, p3, p4, p5, p6])
       iterate 6 (refine lsU ?_; try simp only [Act.put, p1, p2, p3, p4, p5, p6])
       iterate 2 (refine lsA ?_; try simp only [Act.put, p1, p2, p3, p4, p5, p6])
       iterate 9 (refine lsU ?_; try simp only [Act.put, p1, p2, p3, p4, p5, p6])
       iterate 2 (refine lsA ?_; try simp only [Act.put, p1, p2, p3, p4, p5, p6])
       iterate 13 (refine lsU ?_; try simp only [Act.put, p1, p2, p3, p4, p5, p6])
       iterate 2 (refine lsA ?_; try simp only [Act.put, p1, p2, p3, p4, p5, p6])
       iterate 8 (refine lsU ?_; try simp only [Act.put, p1, p2, p3, p4, p5, p6])
       iterate 2 (refine lsA ?_; try simp only [Act.put, p1, p2, p3, p4, p5, p6])
       iterate 7 (refine lsU ?_; try simp only [Act.put, p1, p2, p3, p4, p5, p6])
       iterate 2 (refine lsA ?_; try simp only [Act.put, p1, p2, p3, p4, p5, p6])
       iterate 9 (refine lsU ?_; try simp only [Act.put, p1, p2, p3, p4, p5, p6])
       iterate 2 (refine lsA ?_; try simp only [Act.put, p1, p2, p3, p4, p5, p6])
       refine wL_nil ?_
       clear z689 z690 z691 z692 z693 z694 z695 z696 z697 z698 z699 z700 z701 z702 z703 z704 z705 z706
       go_wp2_with fail
       have he0 := HEB.out
       try simp only [decide_eq_true_eq, decide_eq_false_iff_not] at he0
       go_ret
       exact ⟨ret_b (by unfold sfOk; have := c707h.out; have := c708h.out; have := c709h.out; have := c710h.out; have := c711h.out; exact (decide_eq_false (by omega)).symm), by first | exact H688.out.below | exact H688.out.below'⟩
     ·
      have c710a : ((rn : Int) == (0)) = false := by simpa using c710
      have c710b : ((rn : Int) != (0)) = true := by simpa using c710
      have c710e : (rn == 0) = false := by simp; omega
      have c710f : (rn != 0) = true := by simp; omega
      have c710h := hid c710
      clear c710
      iterate 2 (refine lsA ?_; try simp only [Act.put, p1, p2, p3, p4, p5, p6])
      iterate 4 (refine lsU ?_; try simp only [Act.put, p1, p2, p3, p4, p5, p6])
      iterate 4 (refine lsA ?_; try simp only [Act.put, p1, p2, p3, p4, p5, p6])
      iterate 6 (refine lsU ?_; try simp only [Act.put, p1, p2, p3, p4, p5, p6])
      iterate 2 (refine lsA ?_; try simp only [Act.put, p1, p2, p3, p4, p5, p6])
      iterate 9 (refine lsU ?_; try simp only [Act.put, p1, p2, p3, p4, p5, p6])
      iterate 2 (refine lsA ?_; try simp only [Act.put, p1, p2, p3, p4, p5, p6])
      iterate 13 (refine lsU ?_; try simp only [Act.put, p1, p2, p3, p4, p5, p6])
      iterate 2 (refine lsA ?_; try simp only [Act.put, p1, p2, p3, p4, p5, p6])
      iterate 8 (refine lsU ?_; try simp only [Act.put, p1, p2, p3, p4, p5, p6])
      iterate 2 (refine lsA ?_; try simp only [Act.put, p1, p2, p3, p4, p5, p6])
      iterate 7 (refine lsU ?_; try simp only [Act.put, p1, p2, p3, p4, p5, p6])
      iterate 2 (refine lsA ?_; try simp only [Act.put, p1, p2, p3, p4, p5, p6])
      iterate 9 (refine lsU ?_; try simp only [Act.put, p1, p2, p3, p4, p5, p6])
      iterate 2 (refine lsA ?_; try simp only [Act.put, p1, p2, p3, p4, p5, p6])
      refine wL_nil ?_
      clear z689 z690 z691 z692 z693 z694 z695 z696 z697 z698 z699 z700 z701 z702 z703 z704 z705 z706
      go_wp2_with fail
      have he0 := HEB.out
      try simp only [decide_eq_true_eq, decide_eq_false_iff_not] at he0
      go_ret
      exact ⟨ret_b (by unfold sfOk; have := c707h.out; have := c708h.out; have := c709h.out; have := c710h.out; exact (decide_eq_false (by omega)).symm), by first | exact H688.out.below | exact H688.out.below'⟩
    ·
     have c709a : ((wn : Int) == (0)) = false := by simpa using c709
     have c709b : ((wn : Int) != (0)) = true := by simpa using c709
     have c709e : (wn == 0) = false := by simp; omega
     have c709f : (wn != 0) = true := by simp; omega
     have c709h := hid c709
     clear c709
     iterate 5 (refine lsA ?_; try simp only [Act.put, p1, p2, p3, p4, p5, p6])
     iterate 13 (refine lsU ?_; try simp only [Act.put, p1, p2, p3, p4, p5, p6])
     iterate 2 (refine lsA ?_; try simp only [Act.put, p1, p2, p3, p4, p5, p6])
     iterate 6 (refine lsU ?_; try simp only [Act.put, p1, p2, p3, p4, p5, p6])
     iterate 2 (refine lsA ?_; try simp only [Act.put, p1, p2, p3, p4, p5, p6])
     iterate 9 (refine lsU ?_; try simp only [Act.put, p1, p2, p3, p4, p5, p6])
     iterate 2 (refine lsA ?_; try simp only [Act.put, p1, p2, p3, p4, p5, p6])
     iterate 13 (refine lsU ?_; try simp only [Act.put, p1, p2, p3, p4, p5, p6])
     iterate 2 (refine lsA ?_; try simp only [Act.put, p1, p2, p3, p4, p5, p6])
     iterate 8 (refine lsU ?_; try simp only [Act.put, p1, p2, p3, p4, p5, p6])
     iterate 2 (refine lsA ?_; try simp only [Act.put, p1, p2, p3, p4, p5, p6])
     iterate 7 (refine lsU ?_; try simp only [Act.put, p1, p2, p3, p4, p5, p6])
     iterate 2 (refine lsA ?_; try simp only [Act.put, p1, p2, p3, p4, p5, p6])
     iterate 9 (refine lsU ?_; try simp only [Act.put, p1, p2, p3, p4, p5, p6])
     iterate 2 (refine lsA ?_; try simp only [Act.put, p1, p2, p3, p4, p5, p6])
     refine wL_nil ?_
     clear z689 z690 z691 z692 z693 z694 z695 z696 z697 z698 z699 z700 z701 z702 z703 z704 z705 z706
     go_wp2_with fail
     have he0 := HEB.out
     try simp only [decide_eq_true_eq, decide_eq_false_iff_not] at he0
     go_ret
     exact ⟨ret_b (by unfold sfOk; have := c707h.out; have := c708h.out; have := c709h.out; exact (decide_eq_false (by omega)).symm), by first | exact H688.out.below | exact H688.out.below'⟩
   ·
    have c708a : ((kh : Int) == (0)) = false := by simpa using c708
    have c708b : ((kh : Int) != (0)) = true := by simpa using c708
    have c708h := hid c708
    clear c708
    iterate 3 (refine lsA ?_; try simp only [Act.put, p1, p2, p3, p4, p5, p6])
    iterate 4 (refine lsU ?_; try simp only [Act.put, p1, p2, p3, p4, p5, p6])
    iterate 4 (refine lsA ?_; try simp only [Act.put, p1, p2, p3, p4, p5, p6])
    iterate 13 (refine lsU ?_; try simp only [Act.put, p1, p2, p3, p4, p5, p6])
    iterate 2 (refine lsA ?_; try simp only [Act.put, p1, p2, p3, p4, p5, p6])
    iterate 6 (refine lsU ?_; try simp only [Act.put, p1, p2, p3, p4, p5, p6])
    iterate 2 (refine lsA ?_; try simp only [Act.put, p1, p2, p3, p4, p5, p6])
    iterate 9 (refine lsU ?_; try simp only [Act.put, p1, p2, p3, p4, p5, p6])
    iterate 2 (refine lsA ?_; try simp only [Act.put, p1, p2, p3, p4, p5, p6])
    iterate 13 (refine lsU ?_; try simp only [Act.put, p1, p2, p3, p4, p5, p6])
    iterate 2 (refine lsA ?_; try simp only [Act.put, p1, p2, p3, p4, p5, p6])
    iterate 8 (refine lsU ?_; try simp only [Act.put, p1, p2, p3, p4, p5, p6])
    iterate 2 (refine lsA ?_; try simp only [Act.put, p1, p2, p3, p4, p5, p6])
    iterate 7 (refine lsU ?_; try simp only [Act.put, p1, p2, p3, p4, p5, p6])
    iterate 2 (refine lsA ?_; try simp only [Act.put, p1, p2, p3, p4, p5, p6])
    iterate 9 (refine lsU ?_; try simp only [Act.put, p1, p2, p3, p4, p5, p6])
    iterate 2 (refine lsA ?_; try simp only [Act.put, p1, p2, p3, p4, p5, p6])
    refine wL_nil ?_
    clear z689 z690 z691 z692 z693 z694 z695 z696 z697 z698 z699 z700 z701 z702 z703 z704 z705 z706
    go_wp2_with fail
    have he0 := HEB.out
    try simp only [decide_eq_true_eq, decide_eq_false_iff_not] at he0
    go_ret
    exact ⟨ret_b (by unfold sfOk; have := c707h.out; have := c708h.out; exact (decide_eq_false (by omega)).symm), by first | exact H688.out.below | exact H688.out.below'⟩
  ·
   have c707a : ((kw : Int) == (0)) = false := by simpa using c707
   have c707b : ((kw : Int) != (0)) = true := by simpa using c707
   have c707h := hid c707
   clear c707
   iterate 2 (refine lsA ?_; try simp only [Act.put, p1, p2, p3, p4, p5, p6])
   iterate 3 (refine lsU ?_; try simp only [Act.put, p1, p2, p3, p4, p5, p6])
   iterate 2 (refine lsA ?_; try simp only [Act.put, p1, p2, p3, p4, p5, p6])
   iterate 4 (refine lsU ?_; try simp only [Act.put, p1, p2, p3, p4, p5, p6])
   iterate 4 (refine lsA ?_; try simp only [Act.put, p1, p2, p3, p4, p5, p6])
   iterate 13 (refine lsU ?_; try simp only [Act.put, p1, p2, p3, p4, p5, p6])
   iterate 2 (refine lsA ?_; try simp only [Act.put, p1, p2, p3, p4, p5, p6])
   iterate 6 (refine lsU ?_; try simp only [Act.put, p1, p2, p3, p4, p5, p6])
   iterate 2 (refine lsA ?_; try simp only [Act.put, p1, p2, p3, p4, p5, p6])
   iterate 9 (refine lsU ?_; try simp only [Act.put, p1, p2, p3, p4, p5, p6])
   iterate 2 (refine lsA ?_; try simp only [Act.put, p1, p2, p3, p4, p5, p6])
   iterate 13 (refine lsU ?_; try simp only [Act.put, p1, p2, p3, p4, p5, p6])
   iterate 2 (refine lsA ?_; try simp only [Act.put, p1, p2, p3, p4, p5, p6])
   iterate 8 (refine lsU ?_; try simp only [Act.put, p1, p2, p3, p4, p5, p6])
   iterate 2 (refine lsA ?_; try simp only [Act.put, p1, p2, p3, p4, p5, p6])
   iterate 7 (refine lsU ?_; try simp only [Act.put, p1, p2, p3, p4, p5, p6])
   iterate 2 (refine lsA ?_; try simp only [Act.put, p1, p2, p3, p4, p5, p6])
   iterate 9 (refine lsU ?_; try simp only [Act.put, p1, p2, p3, p4, p5, p6])
   iterate 2 (refine lsA ?_; try simp only [Act.put, p1, p2, p3, p4, p5, p6])
   refine wL_nil ?_
   clear z689 z690 z691 z692 z693 z694 z695 z696 z697 z698 z699 z700 z701 z702 z703 z704 z705 z706
   go_wp2_with fail
   have he0 := HEB.out
   try simp only [decide_eq_true_eq, decide_eq_false_iff_not] at he0
   go_ret
   exact ⟨ret_b (by unfold sfOk; have := c707h.out; exact (decide_eq_false (by omega)).symm), by first | exact H688.out.below | exact H688.out.below'⟩
 | false =>
  iterate 3 (refine lsA ?_; try simp only [Act.put, p1, p2, p3, p4, p5, p6])
  iterate 17 (refine lsU ?_; try simp only [Act.put, p1, p2, p3, p4, p5, p6])
  iterate 2 (refine lsA ?_; try simp only [Act.put, p1, p2, p3, p4, p5, p6])
  iterate 13 (refine lsU ?_; try simp only [Act.put, p1, p2, p3, p4, p5, p6])
  iterate 2 (refine lsA ?_; try simp only [Act.put, p1, p2, p3, p4, p5, p6])
  iterate 6 (refine lsU ?_; try simp only [Act.put, p1, p2, p3, p4, p5, p6])
  iterate 2 (refine lsA ?_; try simp only [Act.put, p1, p2, p3, p4, p5, p6])
  iterate 9 (refine lsU ?_; try simp only [Act.put, p1, p2, p3, p4, p5, p6])
  iterate 2 (refine lsA ?_; try simp only [Act.put, p1, p2, p3, p4, p5, p6])
  iterate 13 (refine lsU ?_; try simp only [Act.put, p1, p2, p3, p4, p5, p6])
  iterate 2 (refine lsA ?_; try simp only [Act.put, p1, p2, p3, p4, p5, p6])
  iterate 8 (refine lsU ?_; try simp only [Act.put, p1, p2, p3, p4, p5, p6])
  iterate 2 (refine lsA ?_; try simp only [Act.put, p1, p2, p3, p4, p5, p6])
  iterate 7 (refine lsU ?_; try simp only [Act.put, p1, p2, p3, p4, p5, p6])
  iterate 2 (refine lsA ?_; try simp only [Act.put, p1, p2, p3, p4, p5, p6])
  iterate 9 (refine lsU ?_; try simp only [Act.put, p1, p2, p3, p4, p5, p6])
  iterate 2 (refine lsA ?_; try simp only [Act.put, p1, p2, p3, p4, p5, p6])
  refine wL_nil ?_
  clear z689 z690 z691 z692 z693 z694 z695 z696 z697 z698 z699 z700 z701 z702 z703 z704 z705 z706
  go_wp2_with fail
  have he0 := HEB.out
  try simp only [decide_eq_true_eq, decide_eq_false_iff_not] at he0
  go_ret
  exact ⟨ret_b (by unfold sfOk; exact (decide_eq_false (by omega)).symm), by first | exact H688.out.below | exact H688.out.below'⟩
end Go.Proofs.Yteejjnhlfgjlaaa
