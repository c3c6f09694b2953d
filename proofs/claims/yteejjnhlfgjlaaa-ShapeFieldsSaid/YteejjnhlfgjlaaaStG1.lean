/-
 Contract: which fields a stage may use, in the program, at the kind 1.
-/
import Derived.Test.YteejjnhlfgjlaaaStF
import Derived.Test.YteejjnhlfgjlaaaKH
namespace Go.Proofs.Yteejjnhlfgjlaaa
open Go.RowKit
attribute [local go_sem ↓] Go.wp_at_zero Go.wp_at_succ edge_eq edge_ne
set_option linter.unusedVariables false
set_option linter.unusedSimpArgs false

set_option maxRecDepth 100000 in
set_option maxHeartbeats 6400000 in
theorem sfields_1 (sa sb : Int) (bar : Bool) (ep ef kw kh : Int) (wa : Option Addr) (wn wc : Nat) (ra : Option Addr) (rn rc : Nat) (ca : Option Addr) (cn cc : Nat) (sh sh2 : Int) (xa : Option Addr) (xn xc : Nat) (ya : Option Addr) (yn yc : Nat) (bins : Int) (oa : Option Addr) (on oc : Nat) (mx : Int) (W : World) : Calls Try.prog 11 #[.agg #[.int .i64 1, .int .i64 sa, .int .i64 sb, .bool bar, .int .i64 ep, .int .i64 ef, .int .i64 kw, .int .i64 kh, .slice wa wn wc, .slice ra rn rc, .slice ca cn cc, .int .i64 sh, .int .i64 sh2, .slice xa xn xc, .slice ya yn yc, .int .i64 bins, .slice oa on oc, .int .i64 mx]] W fun e w' => e = .returned (.bool (sfOk 1 sb ep ef kw kh wn rn cn sh sh2 xn yn bins on mx)) ∧ Below W.heap.size W w' := by
 obtain ⟨B, hB⟩ : ∃ B, W.heap.size = B := ⟨_, rfl⟩
 have HI0 := hid (St.init hB)
 obtain ⟨eb, heb⟩ : ∃ x, decide (ep = 0 ∧ ef = 0) = x := ⟨_, rfl⟩
 have HEB := hid heb
 go_enter Try.func11, Try.ntmps11
 go_upto_region 1 with fail
 have H9 := hid (HI0.out.alloc #[.int .i64 1, .int .i64 sa, .int .i64 sb, .bool bar, .int .i64 ep, .int .i64 ef, .int .i64 kw, .int .i64 kh, .slice wa wn wc, .slice ra rn rc, .slice ca cn cc, .int .i64 sh, .int .i64 sh2, .slice xa xn xc, .slice ya yn yc, .int .i64 bins, .slice oa on oc, .int .i64 mx] 33 hB)
 first | refine gen_code H9.out ?_ | refine gen_list H9.out ?_ | refine gen_calls H9.out ?_
 intro w10 hG
 clear H9
 have H9 := hid hG
 clear hG
 by_cases c11 : (sb : Int) = (-1)
 ·
  obtain ⟨c11c, c11d⟩ : (sb : Int) ≤ (-1) ∧ ((-1) : Int) ≤ sb := by omega
  have c11a : ((sb : Int) == ((-1))) = true := by simpa using c11
  have c11b : ((sb : Int) != ((-1))) = false := by simpa using c11
  have c11h := hid c11
  clear c11
  obtain ⟨z12, z13, z14, z15, z16, z17, z18, z19, z20, z21, z22, z23, z24, z25, z26, z27, z28, z29⟩ := cs18 H9.out 0 rfl
  go_wp2_with fail
  clear z12 z13 z14 z15 z16 z17 z18 z19 z20 z21 z22 z23 z24 z25 z26 z27 z28 z29
  refine (edged_any _ _).mono ?_
  rintro e w30 ⟨rfl, hsw⟩
  have hsw2 : w10 = w30 := by first | exact hsw | exact hsw.symm
  clear hsw
  subst hsw2
  rw [show edOk 1 = true from by decide]
  obtain ⟨D31, hD31⟩ : ∃ D, w10.heap.size = D := ⟨_, rfl⟩
  go_wp2_with fail
  have H32 := hid (H9.out.alloc #[.int .i64 1] 3 hD31)
  first | refine gen_code H32.out ?_ | refine gen_list H32.out ?_ | refine gen_calls H32.out ?_
  intro w33 hG
  clear H32
  have H32 := hid hG
  clear hG
  clear hD31
  refine (is_any _ _ _ [1] B _ _ (H32.out.lit 0 [1] rfl (by simp)) (by decide) (hid (H32.out.cell 1 rfl 0 rfl))).mono ?_
  rintro e w34 ⟨rfl, hb⟩
  have H35 := hid (H32.out.call hb)
  clear hb
  rw [show isIn 1 [1] = true from by decide]
  obtain ⟨D36, hD36⟩ : ∃ D, w34.heap.size = D := ⟨_, rfl⟩
  go_wp2_with fail
  have H37 := hid (H35.out.alloc #[.int .i64 2] 3 hD36)
  first | refine gen_code H37.out ?_ | refine gen_list H37.out ?_ | refine gen_calls H37.out ?_
  intro w38 hG
  clear H37
  have H37 := hid hG
  clear hG
  clear hD36
  refine (is_any _ _ _ [2] B _ _ (H37.out.lit 0 [2] rfl (by simp)) (by decide) (hid (H37.out.cell 2 rfl 0 rfl))).mono ?_
  rintro e w39 ⟨rfl, hb⟩
  have H40 := hid (H37.out.call hb)
  clear hb
  rw [show isIn 1 [2] = false from by decide]
  obtain ⟨D41, hD41⟩ : ∃ D, w39.heap.size = D := ⟨_, rfl⟩
  go_wp2_with fail
  have H42 := hid (H40.out.alloc #[.int .i64 3] 3 hD41)
  first | refine gen_code H42.out ?_ | refine gen_list H42.out ?_ | refine gen_calls H42.out ?_
  intro w43 hG
  clear H42
  have H42 := hid hG
  clear hG
  clear hD41
  refine (is_any _ _ _ [3] B _ _ (H42.out.lit 0 [3] rfl (by simp)) (by decide) (hid (H42.out.cell 3 rfl 0 rfl))).mono ?_
  rintro e w44 ⟨rfl, hb⟩
  have H45 := hid (H42.out.call hb)
  clear hb
  rw [show isIn 1 [3] = false from by decide]
  obtain ⟨D46, hD46⟩ : ∃ D, w44.heap.size = D := ⟨_, rfl⟩
  go_wp2_with fail
  have H47 := hid (H45.out.alloc #[.int .i64 6] 3 hD46)
  first | refine gen_code H47.out ?_ | refine gen_list H47.out ?_ | refine gen_calls H47.out ?_
  intro w48 hG
  clear H47
  have H47 := hid hG
  clear hG
  clear hD46
  refine (is_any _ _ _ [6] B _ _ (H47.out.lit 0 [6] rfl (by simp)) (by decide) (hid (H47.out.cell 4 rfl 0 rfl))).mono ?_
  rintro e w49 ⟨rfl, hb⟩
  have H50 := hid (H47.out.call hb)
  clear hb
  rw [show isIn 1 [6] = false from by decide]
  go_upto_region 11 with fail
  first | refine wp_region_lit (wL_to ?_) | refine wp_seq (wp_region_lit (wL_to ?_))
  obtain ⟨z51, z52, z53, z54, z55, z56, z57, z58, z59, z60, z61, z62, z63, z64, z65, z66, z67, z68⟩ := cs18 H50.out 4 rfl
  iterate 2 (refine lsA ?_; try simp only [Act.put, p1, p2, p3, p4, p5, p6])
  iterate 4 (refine lsU ?_; try simp only [Act.put, p1, p2, p3, p4, p5, p6])
  iterate 4 (refine lsA ?_; try simp only [Act.put, p1, p2, p3, p4, p5, p6])
  iterate 14 (refine lsU ?_; try simp only [Act.put, p1, p2, p3, p4, p5, p6])
  iterate 8 (refine lsA ?_; try simp only [Act.put, p1, p2, p3, p4, p5, p6])
  by_cases c69 : (rn : Int) = 0
  ·
   obtain ⟨c69c, c69d⟩ : (rn : Int) ≤ 0 ∧ (0 : Int) ≤ rn := by omega
   have c69a : ((rn : Int) == (0)) = true := by simpa using c69
   have c69b : ((rn : Int) != (0)) = false := by simpa using c69
   have c69e : (rn == 0) = true := by simp; omega
   have c69f : (rn != 0) = false := by simp; omega
   have c69h := hid c69
   clear c69
   iterate 5 (refine lsA ?_; try simp only [Act.put, p1, p2, p3, p4, p5, p6])
   by_cases c70 : (cn : Int) = 0
   ·
    obtain ⟨c70c, c70d⟩ : (cn : Int) ≤ 0 ∧ (0 : Int) ≤ cn := by omega
    have c70a : ((cn : Int) == (0)) = true := by simpa using c70
    have c70b : ((cn : Int) != (0)) = false := by simpa using c70
    have c70e : (cn == 0) = true := by simp; omega
    have c70f : (cn != 0) = false := by simp; omega
    have c70h := hid c70
    clear c70
    iterate 7 (refine lsA ?_; try simp only [Act.put, p1, p2, p3, p4, p5, p6])
    iterate 3 (refine lsU ?_; try simp only [Act.put, p1, p2, p3, p4, p5, p6])
    iterate 10 (refine lsA ?_; try simp only [Act.put, p1, p2, p3, p4, p5, p6])
    by_cases c71 : (sh2 : Int) = 0
    ·
     obtain ⟨c71c, c71d⟩ : (sh2 : Int) ≤ 0 ∧ (0 : Int) ≤ sh2 := by omega
     have c71a : ((sh2 : Int) == (0)) = true := by simpa using c71
     have c71b : ((sh2 : Int) != (0)) = false := by simpa using c71
     have c71h := hid c71
     clear c71
     iterate 9 (refine lsA ?_; try simp only [Act.put, p1, p2, p3, p4, p5, p6])
     by_cases c72 : (xn : Int) = 0
     ·
      obtain ⟨c72c, c72d⟩ : (xn : Int) ≤ 0 ∧ (0 : Int) ≤ xn := by omega
      have c72a : ((xn : Int) == (0)) = true := by simpa using c72
      have c72b : ((xn : Int) != (0)) = false := by simpa using c72
      have c72e : (xn == 0) = true := by simp; omega
      have c72f : (xn != 0) = false := by simp; omega
      have c72h := hid c72
      clear c72
      iterate 5 (refine lsA ?_; try simp only [Act.put, p1, p2, p3, p4, p5, p6])
      by_cases c73 : (yn : Int) = 0
      ·
       obtain ⟨c73c, c73d⟩ : (yn : Int) ≤ 0 ∧ (0 : Int) ≤ yn := by omega
       have c73a : ((yn : Int) == (0)) = true := by simpa using c73
       have c73b : ((yn : Int) != (0)) = false := by simpa using c73
       have c73e : (yn == 0) = true := by simp; omega
       have c73f : (yn != 0) = false := by simp; omega
       have c73h := hid c73
       clear c73
       iterate 6 (refine lsA ?_; try simp only [Act.put, p1, p2, p3, p4, p5, p6])
       obtain ⟨D74, hD74⟩ : ∃ D, w49.heap.size = D := ⟨_, rfl⟩
       refine lsB ?_
       try simp only [Act.put, p1, p2, p3, p4, p5, p6]
       have H75 := hid (H50.out.alloc #[.int .i64 4] 3 hD74)
       clear hD74
       generalize (w49.alloc (.cells #[.int .i64 4] 3)) = k76 at *
       clear z51 z52 z53 z54 z55 z56 z57 z58 z59 z60 z61 z62 z63 z64 z65 z66 z67 z68
       obtain ⟨z77, z78, z79, z80, z81, z82, z83, z84, z85, z86, z87, z88, z89, z90, z91, z92, z93, z94⟩ := cs18 H75.out 5 rfl
       refine lsC ?_
       refine (is_any _ _ _ [4] B _ _ (H75.out.lit 0 [4] rfl (by simp)) (by decide) (hid (H75.out.cell 5 rfl 0 rfl))).mono ?_
       rintro e w95 ⟨rfl, hb⟩
       have H96 := hid (H75.out.call hb)
       clear hb
       rw [show isIn 1 [4] = false from by decide]
       refine ⟨_, rfl, ?_⟩
       try simp only [Act.put, p1, p2, p3, p4, p5, p6]
       clear z77 z78 z79 z80 z81 z82 z83 z84 z85 z86 z87 z88 z89 z90 z91 z92 z93 z94
       obtain ⟨z97, z98, z99, z100, z101, z102, z103, z104, z105, z106, z107, z108, z109, z110, z111, z112, z113, z114⟩ := cs18 H96.out 5 rfl
       iterate 3 (refine lsA ?_; try simp only [Act.put, p1, p2, p3, p4, p5, p6])
       by_cases c115 : (bins : Int) = 0
       ·
        obtain ⟨c115c, c115d⟩ : (bins : Int) ≤ 0 ∧ (0 : Int) ≤ bins := by omega
        have c115a : ((bins : Int) == (0)) = true := by simpa using c115
        have c115b : ((bins : Int) != (0)) = false := by simpa using c115
        have c115h := hid c115
        clear c115
        iterate 9 (refine lsA ?_; try simp only [Act.put, p1, p2, p3, p4, p5, p6])
        by_cases c116 : (on : Int) = 0
        ·
         obtain ⟨c116c, c116d⟩ : (on : Int) ≤ 0 ∧ (0 : Int) ≤ on := by omega
         have c116a : ((on : Int) == (0)) = true := by simpa using c116
         have c116b : ((on : Int) != (0)) = false := by simpa using c116
         have c116e : (on == 0) = true := by simp; omega
         have c116f : (on != 0) = false := by simp; omega
         have c116h := hid c116
         clear c116
         iterate 6 (refine lsA ?_; try simp only [Act.put, p1, p2, p3, p4, p5, p6])
         refine lsU ?_
         try simp only [Act.put, p1, p2, p3, p4, p5, p6]
         iterate 2 (refine lsA ?_; try simp only [Act.put, p1, p2, p3, p4, p5, p6])
         iterate 3 (refine lsU ?_; try simp only [Act.put, p1, p2, p3, p4, p5, p6])
         iterate 3 (refine lsA ?_; try simp only [Act.put, p1, p2, p3, p4, p5, p6])
         refine wL_nil ?_
         clear z97 z98 z99 z100 z101 z102 z103 z104 z105 z106 z107 z108 z109 z110 z111 z112 z113 z114
         go_wp2_with fail
         have he0 := HEB.out
         try simp only [decide_eq_true_eq, decide_eq_false_iff_not] at he0
         go_ret
         exact ⟨ret_b (by unfold sfOk; have := c11h.out; have := c69h.out; have := c70h.out; have := c71h.out; have := c72h.out; have := c73h.out; have := c115h.out; have := c116h.out; exact (decide_eq_true (by omega)).symm), by first | exact H96.out.below | exact H96.out.below'⟩
        ·
         have c116a : ((on : Int) == (0)) = false := by simpa using c116
         have c116b : ((on : Int) != (0)) = true := by simpa using c116
         have c116e : (on == 0) = false := by simp; omega
         have c116f : (on != 0) = true := by simp; omega
         have c116h := hid c116
         clear c116
         iterate 4 (refine lsA ?_; try simp only [Act.put, p1, p2, p3, p4, p5, p6])
         iterate 9 (refine lsU ?_; try simp only [Act.put, p1, p2, p3, p4, p5, p6])
         iterate 2 (refine lsA ?_; try simp only [Act.put, p1, p2, p3, p4, p5, p6])
         refine wL_nil ?_
         clear z97 z98 z99 z100 z101 z102 z103 z104 z105 z106 z107 z108 z109 z110 z111 z112 z113 z114
         go_wp2_with fail
         have he0 := HEB.out
         try simp only [decide_eq_true_eq, decide_eq_false_iff_not] at he0
         go_ret
         exact ⟨ret_b (by unfold sfOk; have := c11h.out; have := c69h.out; have := c70h.out; have := c71h.out; have := c72h.out; have := c73h.out; have := c115h.out; have := c116h.out; exact (decide_eq_false (by omega)).symm), by first | exact H96.out.below | exact H96.out.below'⟩
       ·
        have c115a : ((bins : Int) == (0)) = false := by simpa using c115
        have c115b : ((bins : Int) != (0)) = true := by simpa using c115
        have c115h := hid c115
        clear c115
        iterate 4 (refine lsA ?_; try simp only [Act.put, p1, p2, p3, p4, p5, p6])
        iterate 7 (refine lsU ?_; try simp only [Act.put, p1, p2, p3, p4, p5, p6])
        iterate 2 (refine lsA ?_; try simp only [Act.put, p1, p2, p3, p4, p5, p6])
        iterate 9 (refine lsU ?_; try simp only [Act.put, p1, p2, p3, p4, p5, p6])
        iterate 2 (refine lsA ?_; try simp only [Act.put, p1, p2, p3, p4, p5, p6])
        refine wL_nil ?_
        clear z97 z98 z99 z100 z101 z102 z103 z104 z105 z106 z107 z108 z109 z110 z111 z112 z113 z114
        go_wp2_with fail
        have he0 := HEB.out
        try simp only [decide_eq_true_eq, decide_eq_false_iff_not] at he0
        go_ret
        exact ⟨ret_b (by unfold sfOk; have := c11h.out; have := c69h.out; have := c70h.out; have := c71h.out; have := c72h.out; have := c73h.out; have := c115h.out; exact (decide_eq_false (by omega)).symm), by first | exact H96.out.below | exact H96.out.below'⟩
      ·
       have c73a : ((yn : Int) == (0)) = false := by simpa using c73
       have c73b : ((yn : Int) != (0)) = true := by simpa using c73
       have c73e : (yn == 0) = false := by simp; omega
       have c73f : (yn != 0) = true := by simp; omega
       have c73h := hid c73
       clear c73
       iterate 5 (refine lsA ?_; try simp only [Act.put, p1, p2, p3, p4, p5, p6])
       iterate 8 (refine lsU ?_; try simp only [Act.put, p1, p2, p3, p4, p5, p6])
       iterate 2 (refine lsA ?_; try simp only [Act.put, p1, p2, p3, p4, p5, p6])
       iterate 7 (refine lsU ?_; try simp only [Act.put, p1, p2, p3, p4, p5, p6])
       iterate 2 (refine lsA ?_; try simp only [Act.put, p1, p2, p3, p4, p5, p6])
       iterate 9 (refine lsU ?_; try simp only [Act.put, p1, p2, p3, p4, p5, p6])
       iterate 2 (refine lsA ?_; try simp only [Act.put, p1, p2, p3, p4, p5, p6])
       refine wL_nil ?_
       clear z51 z52 z53 z54 z55 z56 z57 z58 z59 z60 z61 z62 z63 z64 z65 z66 z67 z68
       go_wp2_with fail
       have he0 := HEB.out
       try simp only [decide_eq_true_eq, decide_eq_false_iff_not] at he0
       go_ret
       exact ⟨ret_b (by unfold sfOk; have := c11h.out; have := c69h.out; have := c70h.out; have := c71h.out; have := c72h.out; have := c73h.out; exact (decide_eq_false (by omega)).symm), by first | exact H50.out.below | exact H50.out.below'⟩
     ·
      have c72a : ((xn : Int) == (0)) = false := by simpa using c72
      have c72b : ((xn : Int) != (0)) = true := by simpa using c72
      have c72e : (xn == 0) = false := by simp; omega
      have c72f : (xn != 0) = true := by simp; omega
      have c72h := hid c72
      clear c72
      iterate 2 (refine lsA ?_; try simp only [Act.put, p1, p2, p3, p4, p5, p6])
      iterate 4 (refine lsU ?_; try simp only [Act.put, p1, p2, p3, p4, p5, p6])
      iterate 4 (refine lsA ?_; try simp only [Act.put, p1, p2, p3, p4, p5, p6])
      iterate 8 (refine lsU ?_; try simp only [Act.put, p1, p2, p3, p4, p5, p6])
      iterate 2 (refine lsA ?_; try simp only [Act.put, p1, p2, p3, p4, p5, p6])
      iterate 7 (refine lsU ?_; try simp only [Act.put, p1, p2, p3, p4, p5, p6])
      iterate 2 (refine lsA ?_; try simp only [Act.put, p1, p2, p3, p4, p5, p6])
      iterate 9 (refine lsU ?_; try simp only [Act.put, p1, p2, p3, p4, p5, p6])
      iterate 2 (refine lsA ?_; try simp only [Act.put, p1, p2, p3, p4, p5, p6])
      refine wL_nil ?_
      clear z51 z52 z53 z54 z55 z56 z57 z58 z59 z60 z61 z62 z63 z64 z65 z66 z67 z68
      go_wp2_with fail
      have he0 := HEB.out
      try simp only [decide_eq_true_eq, decide_eq_false_iff_not] at he0
      go_ret
      exact ⟨ret_b (by unfold sfOk; have := c11h.out; have := c69h.out; have := c70h.out; have := c71h.out; have := c72h.out; exact (decide_eq_false (by omega)).symm), by first | exact H50.out.below | exact H50.out.below'⟩
    ·
     have c71a : ((sh2 : Int) == (0)) = false := by simpa using c71
     have c71b : ((sh2 : Int) != (0)) = true := by simpa using c71
     have c71h := hid c71
     clear c71
     iterate 4 (refine lsA ?_; try simp only [Act.put, p1, p2, p3, p4, p5, p6])
     iterate 13 (refine lsU ?_; try simp only [Act.put, p1, p2, p3, p4, p5, p6])
     iterate 2 (refine lsA ?_; try simp only [Act.put, p1, p2, p3, p4, p5, p6])
     iterate 8 (refine lsU ?_; try simp only [Act.put, p1, p2, p3, p4, p5, p6])
     iterate 2 (refine lsA ?_; try simp only [Act.put, p1, p2, p3, p4, p5, p6])
     iterate 7 (refine lsU ?_; try simp only [Act.put, p1, p2, p3, p4, p5, p6])
     iterate 2 (refine lsA ?_; try simp only [Act.put, p1, p2, p3, p4, p5, p6])
     iterate 9 (refine lsU ?_; try simp only [Act.put, p1, p2, p3, p4, p5, p6])
     iterate 2 (refine lsA ?_; try simp only [Act.put, p1, p2, p3, p4, p5, p6])
     refine wL_nil ?_
     clear z51 z52 z53 z54 z55 z56 z57 z58 z59 z60 z61 z62 z63 z64 z65 z66 z67 z68
     go_wp2_with fail
     have he0 := HEB.out
     try simp only [decide_eq_true_eq, decide_eq_false_iff_not] at he0
     go_ret
     exact ⟨ret_b (by unfold sfOk; have := c11h.out; have := c69h.out; have := c70h.out; have := c71h.out; exact (decide_eq_false (by omega)).symm), by first | exact H50.out.below | exact H50.out.below'⟩
   ·
    have c70a : ((cn : Int) == (0)) = false := by simpa using c70
    have c70b : ((cn : Int) != (0)) = true := by simpa using c70
    have c70e : (cn == 0) = false := by simp; omega
    have c70f : (cn != 0) = true := by simp; omega
    have c70h := hid c70
    clear c70
    iterate 5 (refine lsA ?_; try simp only [Act.put, p1, p2, p3, p4, p5, p6])
    iterate 6 (refine lsU ?_; try simp only [Act.put, p1, p2, p3, p4, p5, p6])
    iterate 2 (refine lsA ?_; try simp only [Act.put, p1, p2, p3, p4, p5, p6])
    iterate 9 (refine lsU ?_; try simp only [Act.put, p1, p2, p3, p4, p5, p6])
    iterate 2 (refine lsA ?_; try simp only [Act.put, p1, p2, p3, p4, p5, p6])
    iterate 13 (refine lsU ?_; try simp only [Act.put, p1, p2, p3, p4, p5, p6])
    iterate 2 (refine lsA ?_; try simp only [Act.put, p1, p2, p3, p4, p5, p6])
    iterate 8 (refine lsU ?_; try simp only [Act.put, p1, p2, p3, p4, p5, p6])
    iterate 2 (refine lsA ?_; try simp only [Act.put, p1, p2, p3, p4, p5, p6])
    iterate 7 (refine lsU ?_; try simp only [Act.put, p1, p2, p3, p4, p5, p6])
    iterate 2 (refine lsA ?_; try simp only [Act.put, p1, p2, p3, p4, p5, p6])
    iterate 9 (refine lsU ?_; try simp only [Act.put, p1, p2, p3, p4, p5, p6])
    iterate 2 (refine lsA ?_; try simp only [Act.put, p1, p2, p3, p4, p5, p6])
    refine wL_nil ?_
    clear z51 z52 z53 z54 z55 z56 z57 z58 z59 z60 z61 z62 z63 z64 z65 z66 z67 z68
    go_wp2_with fail
    have he0 := HEB.out
    try simp only [decide_eq_true_eq, decide_eq_false_iff_not] at he0
    go_ret
    exact ⟨ret_b (by unfold sfOk; have := c11h.out; have := c69h.out; have := c70h.out; exact (decide_eq_false (by omega)).symm), by first | exact H50.out.below | exact H50.out.below'⟩
  ·
   have c69a : ((rn : Int) == (0)) = false := by simpa using c69
   have c69b : ((rn : Int) != (0)) = true := by simpa using c69
   have c69e : (rn == 0) = false := by simp; omega
   have c69f : (rn != 0) = true := by simp; omega
   have c69h := hid c69
   clear c69
   iterate 2 (refine lsA ?_; try simp only [Act.put, p1, p2, p3, p4, p5, p6])
   iterate 4 (refine lsU ?_; try simp only [Act.put, p1, p2, p3, p4, p5, p6])
   iterate 4 (refine lsA ?_; try simp only [Act.put, p1, p2, p3, p4, p5, p6])
   iterate 6 (refine lsU ?_; try simp only [Act.put, p1, p2, p3, p4, p5, p6])
   iterate 2 (refine lsA ?_; try simp only [Act.put, p1, p2, p3, p4, p5, p6])
   iterate 9 (refine lsU ?_; try simp only [Act.put, p1, p2, p3, p4, p5, p6])
   iterate 2 (refine lsA ?_; try simp only [Act.put, p1, p2, p3, p4, p5, p6])
   iterate 13 (refine lsU ?_; try simp only [Act.put, p1, p2, p3, p4, p5, p6])
   iterate 2 (refine lsA ?_; try simp only [Act.put, p1, p2, p3, p4, p5, p6])
   iterate 8 (refine lsU ?_; try simp only [Act.put, p1, p2, p3, p4, p5, p6])
   iterate 2 (refine lsA ?_; try simp only [Act.put, p1, p2, p3, p4, p5, p6])
   iterate 7 (refine lsU ?_; try simp only [Act.put, p1, p2, p3, p4, p5, p6])
   iterate 2 (refine lsA ?_; try simp only [Act.put, p1, p2, p3, p4, p5, p6])
   iterate 9 (refine lsU ?_; try simp only [Act.put, p1, p2, p3, p4, p5, p6])
   iterate 2 (refine lsA ?_; try simp only [Act.put, p1, p2, p3, p4, p5, p6])
   refine wL_nil ?_
   clear z51 z52 z53 z54 z55 z56 z57 z58 z59 z60 z61 z62 z63 z64 z65 z66 z67 z68
   go_wp2_with fail
   have he0 := HEB.out
   try simp only [decide_eq_true_eq, decide_eq_false_iff_not] at he0
   go_ret
   exact ⟨ret_b (by unfold sfOk; have := c11h.out; have := c69h.out; exact (decide_eq_false (by omega)).symm), by first | exact H50.out.below | exact H50.out.below'⟩
 ·
  have c11a : ((sb : Int) == ((-1))) = false := by simpa using c11
  have c11b : ((sb : Int) != ((-1))) = true := by simpa using c11
  have c11h := hid c11
  clear c11
  obtain ⟨z117, z118, z119, z120, z121, z122, z123, z124, z125, z126, z127, z128, z129, z130, z131, z132, z133, z134⟩ := cs18 H9.out 0 rfl
  go_wp2_with fail
  clear z117 z118 z119 z120 z121 z122 z123 z124 z125 z126 z127 z128 z129 z130 z131 z132 z133 z134
  have he0 := HEB.out
  try simp only [decide_eq_true_eq, decide_eq_false_iff_not] at he0
  go_ret
  exact ⟨ret_b (by unfold sfOk; have := c11h.out; exact (decide_eq_false (by omega)).symm), by first | exact H9.out.below | exact H9.out.below'⟩
end Go.Proofs.Yteejjnhlfgjlaaa
