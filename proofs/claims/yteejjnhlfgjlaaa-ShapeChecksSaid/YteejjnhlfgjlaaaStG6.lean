/-
 Contract: which fields a stage may use, in the program, at the kind 6.
-/
import Derived.Test.YteejjnhlfgjlaaaStF
import Derived.Test.YteejjnhlfgjlaaaKH
namespace Go.Proofs.Yteejjnhlfgjlaaa
open Go.RowKit
attribute [local go_sem ↓] Go.wp_at_zero Go.wp_at_succ edge_eq edge_ne
set_option linter.unusedVariables false
set_option linter.unusedSimpArgs false

set_option maxRecDepth 100000 in
set_option maxHeartbeats 6400000 in
theorem sfields_6 (sa sb : Int) (bar : Bool) (ep ef kw kh : Int) (wa : Option Addr) (wn wc : Nat) (ra : Option Addr) (rn rc : Nat) (ca : Option Addr) (cn cc : Nat) (sh sh2 : Int) (xa : Option Addr) (xn xc : Nat) (ya : Option Addr) (yn yc : Nat) (bins : Int) (oa : Option Addr) (on oc : Nat) (mx : Int) (W : World) : Calls Try.prog 11 #[.agg #[.int .i64 6, .int .i64 sa, .int .i64 sb, .bool bar, .int .i64 ep, .int .i64 ef, .int .i64 kw, .int .i64 kh, .slice wa wn wc, .slice ra rn rc, .slice ca cn cc, .int .i64 sh, .int .i64 sh2, .slice xa xn xc, .slice ya yn yc, .int .i64 bins, .slice oa on oc, .int .i64 mx]] W fun e w' => e = .returned (.bool (sfOk 6 sb ep ef kw kh wn rn cn sh sh2 xn yn bins on mx)) ∧ Below W.heap.size W w' := by
 obtain ⟨B, hB⟩ : ∃ B, W.heap.size = B := ⟨_, rfl⟩; have HI0 := hid (St.init hB); obtain ⟨eb, heb⟩ : ∃ x, decide (ep = 0 ∧ ef = 0) = x := ⟨_, rfl⟩; have HEB := hid heb
 go_enter Try.func11, Try.ntmps11
 go_upto_region 1 with fail
 have H1 := hid (HI0.out.alloc #[.int .i64 6, .int .i64 sa, .int .i64 sb, .bool bar, .int .i64 ep, .int .i64 ef, .int .i64 kw, .int .i64 kh, .slice wa wn wc, .slice ra rn rc, .slice ca cn cc, .int .i64 sh, .int .i64 sh2, .slice xa xn xc, .slice ya yn yc, .int .i64 bins, .slice oa on oc, .int .i64 mx] 33 hB); first | refine gK H1 ?_ | refine gL H1 ?_ | refine gC H1 ?_
 clear H1; intro w1 H1; obtain ⟨z1, z2, z3, z4, z5, z6, z7, z8, z9, z10, z11, z12, z13, z14, z15, z16, z17, z18⟩ := cs18 H1.out 0 rfl; go_wp2_with fail
 clear z1 z2 z3 z4 z5 z6 z7 z8 z9 z10 z11 z12 z13 z14 z15 z16 z17 z18; refine (edged_any _ _).mono ?_; rintro e w2 ⟨rfl, hsw⟩; have hsw2 : w1 = w2 := by first | exact hsw | exact hsw.symm
 clear hsw; subst hsw2; rw [show edOk 6 = false from by decide]; obtain ⟨D1, hD1⟩ : ∃ D, w1.heap.size = D := ⟨_, rfl⟩; go_wp2_with fail
 have H2 := hid (H1.out.alloc #[.int .i64 1] 3 hD1); first | refine gK H2 ?_ | refine gL H2 ?_ | refine gC H2 ?_
 clear H2; intro w1 H2; clear hD1; refine (is_any _ _ _ [1] B _ _ (H2.out.lit 0 [1] rfl (by simp)) (by decide) (hid (H2.out.cell 1 rfl 0 rfl))).mono ?_; rintro e w1 ⟨rfl, hb⟩; have H1 := hid (H2.out.call hb); clear hb; rw [show isIn 6 [1] = false from by decide]; obtain ⟨D1, hD1⟩ : ∃ D, w1.heap.size = D := ⟨_, rfl⟩; go_wp2_with fail
 have H2 := hid (H1.out.alloc #[.int .i64 2] 3 hD1); first | refine gK H2 ?_ | refine gL H2 ?_ | refine gC H2 ?_
 clear H2; intro w1 H2; clear hD1; refine (is_any _ _ _ [2] B _ _ (H2.out.lit 0 [2] rfl (by simp)) (by decide) (hid (H2.out.cell 2 rfl 0 rfl))).mono ?_; rintro e w1 ⟨rfl, hb⟩; have H1 := hid (H2.out.call hb); clear hb; rw [show isIn 6 [2] = false from by decide]; obtain ⟨D1, hD1⟩ : ∃ D, w1.heap.size = D := ⟨_, rfl⟩; go_wp2_with fail
 have H2 := hid (H1.out.alloc #[.int .i64 3] 3 hD1); first | refine gK H2 ?_ | refine gL H2 ?_ | refine gC H2 ?_
 clear H2; intro w1 H2; clear hD1; refine (is_any _ _ _ [3] B _ _ (H2.out.lit 0 [3] rfl (by simp)) (by decide) (hid (H2.out.cell 3 rfl 0 rfl))).mono ?_; rintro e w1 ⟨rfl, hb⟩; have H1 := hid (H2.out.call hb); clear hb; rw [show isIn 6 [3] = false from by decide]; obtain ⟨D1, hD1⟩ : ∃ D, w1.heap.size = D := ⟨_, rfl⟩; go_wp2_with fail
 have H2 := hid (H1.out.alloc #[.int .i64 6] 3 hD1); first | refine gK H2 ?_ | refine gL H2 ?_ | refine gC H2 ?_
 clear H2; intro w1 H2; clear hD1; refine (is_any _ _ _ [6] B _ _ (H2.out.lit 0 [6] rfl (by simp)) (by decide) (hid (H2.out.cell 4 rfl 0 rfl))).mono ?_; rintro e w1 ⟨rfl, hb⟩; have H1 := hid (H2.out.call hb); clear hb; rw [show isIn 6 [6] = true from by decide]; go_upto_region 11 with fail
 first | refine wp_region_lit (wL_to ?_) | refine wp_seq (wp_region_lit (wL_to ?_))
 obtain ⟨z1, z2, z3, z4, z5, z6, z7, z8, z9, z10, z11, z12, z13, z14, z15, z16, z17, z18⟩ := cs18 H1.out 4 rfl; iterate 5 refine la ?_
 cases eb; rotate_left
 ·
  iterate 7 refine la ?_
  by_cases c1 : (kw : Int) = 0
  ·
   obtain ⟨c1c, c1d⟩ : (kw : Int) ≤ 0 ∧ (0 : Int) ≤ kw := by omega
   have c1a : ((kw : Int) == (0)) = true := by simpa using c1
   have c1b : ((kw : Int) != (0)) = false := by simpa using c1
   have c1h := hid c1; clear c1; iterate 4 refine la ?_
   by_cases c2 : (kh : Int) = 0
   ·
    obtain ⟨c2c, c2d⟩ : (kh : Int) ≤ 0 ∧ (0 : Int) ≤ kh := by omega
    have c2a : ((kh : Int) == (0)) = true := by simpa using c2
    have c2b : ((kh : Int) != (0)) = false := by simpa using c2
    have c2h := hid c2; clear c2; iterate 6 refine la ?_
    by_cases c3 : (wn : Int) = 0
    ·
     obtain ⟨c3c, c3d⟩ : (wn : Int) ≤ 0 ∧ (0 : Int) ≤ wn := by omega
     have c3a : ((wn : Int) == (0)) = true := by simpa using c3
     have c3b : ((wn : Int) != (0)) = false := by simpa using c3
     have c3e : (wn == 0) = true := by simp; omega
     have c3f : (wn != 0) = false := by simp; omega
     have c3h := hid c3; clear c3; iterate 10 refine la ?_
     by_cases c4 : (rn : Int) = 0
     ·
      obtain ⟨c4c, c4d⟩ : (rn : Int) ≤ 0 ∧ (0 : Int) ≤ rn := by omega
      have c4a : ((rn : Int) == (0)) = true := by simpa using c4
      have c4b : ((rn : Int) != (0)) = false := by simpa using c4
      have c4e : (rn == 0) = true := by simp; omega
      have c4f : (rn != 0) = false := by simp; omega
      have c4h := hid c4; clear c4; iterate 5 refine la ?_
      by_cases c5 : (cn : Int) = 0
      ·
       obtain ⟨c5c, c5d⟩ : (cn : Int) ≤ 0 ∧ (0 : Int) ≤ cn := by omega
       have c5a : ((cn : Int) == (0)) = true := by simpa using c5
       have c5b : ((cn : Int) != (0)) = false := by simpa using c5
       have c5e : (cn == 0) = true := by simp; omega
       have c5f : (cn != 0) = false := by simp; omega
       have c5h := hid c5; clear c5; iterate 9 refine la ?_
       by_cases c6 : (sh : Int) = 0
       ·
        obtain ⟨c6c, c6d⟩ : (sh : Int) ≤ 0 ∧ (0 : Int) ≤ sh := by omega
        have c6a : ((sh : Int) == (0)) = true := by simpa using c6
        have c6b : ((sh : Int) != (0)) = false := by simpa using c6
        have c6h := hid c6; clear c6; iterate 11 refine la ?_
        by_cases c7 : (sh2 : Int) = 0
        ·
         obtain ⟨c7c, c7d⟩ : (sh2 : Int) ≤ 0 ∧ (0 : Int) ≤ sh2 := by omega
         have c7a : ((sh2 : Int) == (0)) = true := by simpa using c7
         have c7b : ((sh2 : Int) != (0)) = false := by simpa using c7
         have c7h := hid c7; clear c7; iterate 9 refine la ?_
         by_cases c8 : (xn : Int) = 0
         ·
          obtain ⟨c8c, c8d⟩ : (xn : Int) ≤ 0 ∧ (0 : Int) ≤ xn := by omega
          have c8a : ((xn : Int) == (0)) = true := by simpa using c8
          have c8b : ((xn : Int) != (0)) = false := by simpa using c8
          have c8e : (xn == 0) = true := by simp; omega
          have c8f : (xn != 0) = false := by simp; omega
          have c8h := hid c8; clear c8; iterate 5 refine la ?_
          by_cases c9 : (yn : Int) = 0
          ·
           obtain ⟨c9c, c9d⟩ : (yn : Int) ≤ 0 ∧ (0 : Int) ≤ yn := by omega
           have c9a : ((yn : Int) == (0)) = true := by simpa using c9
           have c9b : ((yn : Int) != (0)) = false := by simpa using c9
           have c9e : (yn == 0) = true := by simp; omega
           have c9f : (yn != 0) = false := by simp; omega
           have c9h := hid c9; clear c9; iterate 6 refine la ?_
           obtain ⟨D1, hD1⟩ : ∃ D, w1.heap.size = D := ⟨_, rfl⟩; refine lsB ?_; try simp only [pz]
           have H2 := hid (H1.out.alloc #[.int .i64 4] 3 hD1); clear hD1; generalize (w1.alloc (.cells #[.int .i64 4] 3)) = k1 at *; clear z1 z2 z3 z4 z5 z6 z7 z8 z9 z10 z11 z12 z13 z14 z15 z16 z17 z18; obtain ⟨z19, z20, z21, z22, z23, z24, z25, z26, z27, z28, z29, z30, z31, z32, z33, z34, z35, z36⟩ := cs18 H2.out 5 rfl; refine lsC ?_; refine (is_any _ _ _ [4] B _ _ (H2.out.lit 0 [4] rfl (by simp)) (by decide) (hid (H2.out.cell 5 rfl 0 rfl))).mono ?_; rintro e w1 ⟨rfl, hb⟩; have H3 := hid (H2.out.call hb); clear hb; rw [show isIn 6 [4] = false from by decide]; refine ⟨_, rfl, ?_⟩; try simp only [pz]
           clear z19 z20 z21 z22 z23 z24 z25 z26 z27 z28 z29 z30 z31 z32 z33 z34 z35 z36; obtain ⟨z19, z20, z21, z22, z23, z24, z25, z26, z27, z28, z29, z30, z31, z32, z33, z34, z35, z36⟩ := cs18 H3.out 5 rfl; iterate 3 refine la ?_
           by_cases c10 : (bins : Int) = 0
           ·
            obtain ⟨c10c, c10d⟩ : (bins : Int) ≤ 0 ∧ (0 : Int) ≤ bins := by omega
            have c10a : ((bins : Int) == (0)) = true := by simpa using c10
            have c10b : ((bins : Int) != (0)) = false := by simpa using c10
            have c10h := hid c10; clear c10; iterate 6 refine la ?_
            iterate 4 refine lu ?_
            iterate 8 refine la ?_
            iterate 3 refine lu ?_
            iterate 3 refine la ?_
            refine wL_nil ?_; clear z19 z20 z21 z22 z23 z24 z25 z26 z27 z28 z29 z30 z31 z32 z33 z34 z35 z36; go_wp2_with fail
            have he0 := HEB.out; try simp only [decide_eq_true_eq, decide_eq_false_iff_not] at he0
            go_ret
            exact ⟨ret_b (by unfold sfOk; have := c1h.out; have := c2h.out; have := c3h.out; have := c4h.out; have := c5h.out; have := c6h.out; have := c7h.out; have := c8h.out; have := c9h.out; have := c10h.out; exact (decide_eq_true (by omega)).symm), H3.out.bl⟩
           have c10a : ((bins : Int) == (0)) = false := by simpa using c10
           have c10b : ((bins : Int) != (0)) = true := by simpa using c10
           have c10h := hid c10; clear c10; iterate 4 refine la ?_
           iterate 7 refine lu ?_
           iterate 2 refine la ?_
           iterate 9 refine lu ?_
           iterate 2 refine la ?_
           refine wL_nil ?_; clear z19 z20 z21 z22 z23 z24 z25 z26 z27 z28 z29 z30 z31 z32 z33 z34 z35 z36; go_wp2_with fail
           have he0 := HEB.out; try simp only [decide_eq_true_eq, decide_eq_false_iff_not] at he0
           go_ret
           exact ⟨ret_b (by unfold sfOk; have := c1h.out; have := c2h.out; have := c3h.out; have := c4h.out; have := c5h.out; have := c6h.out; have := c7h.out; have := c8h.out; have := c9h.out; have := c10h.out; exact (decide_eq_false (by omega)).symm), H3.out.bl⟩
          have c9a : ((yn : Int) == (0)) = false := by simpa using c9
          have c9b : ((yn : Int) != (0)) = true := by simpa using c9
          have c9e : (yn == 0) = false := by simp; omega
          have c9f : (yn != 0) = true := by simp; omega
          have c9h := hid c9; clear c9; iterate 5 refine la ?_
          iterate 8 refine lu ?_
          iterate 2 refine la ?_
          iterate 7 refine lu ?_
          iterate 2 refine la ?_
          iterate 9 refine lu ?_
          iterate 2 refine la ?_
          refine wL_nil ?_; clear z1 z2 z3 z4 z5 z6 z7 z8 z9 z10 z11 z12 z13 z14 z15 z16 z17 z18; go_wp2_with fail
          have he0 := HEB.out; try simp only [decide_eq_true_eq, decide_eq_false_iff_not] at he0
          go_ret
          exact ⟨ret_b (by unfold sfOk; have := c1h.out; have := c2h.out; have := c3h.out; have := c4h.out; have := c5h.out; have := c6h.out; have := c7h.out; have := c8h.out; have := c9h.out; exact (decide_eq_false (by omega)).symm), H1.out.bl⟩
         have c8a : ((xn : Int) == (0)) = false := by simpa using c8
         have c8b : ((xn : Int) != (0)) = true := by simpa using c8
         have c8e : (xn == 0) = false := by simp; omega
         have c8f : (xn != 0) = true := by simp; omega
         have c8h := hid c8; clear c8; iterate 2 refine la ?_
         iterate 4 refine lu ?_
         iterate 4 refine la ?_
         iterate 8 refine lu ?_
         iterate 2 refine la ?_
         iterate 7 refine lu ?_
         iterate 2 refine la ?_
         iterate 9 refine lu ?_
         iterate 2 refine la ?_
         refine wL_nil ?_; clear z1 z2 z3 z4 z5 z6 z7 z8 z9 z10 z11 z12 z13 z14 z15 z16 z17 z18; go_wp2_with fail
         have he0 := HEB.out; try simp only [decide_eq_true_eq, decide_eq_false_iff_not] at he0
         go_ret
         exact ⟨ret_b (by unfold sfOk; have := c1h.out; have := c2h.out; have := c3h.out; have := c4h.out; have := c5h.out; have := c6h.out; have := c7h.out; have := c8h.out; exact (decide_eq_false (by omega)).symm), H1.out.bl⟩
        have c7a : ((sh2 : Int) == (0)) = false := by simpa using c7
        have c7b : ((sh2 : Int) != (0)) = true := by simpa using c7
        have c7h := hid c7; clear c7; iterate 4 refine la ?_
        iterate 13 refine lu ?_
        iterate 2 refine la ?_
        iterate 8 refine lu ?_
        iterate 2 refine la ?_
        iterate 7 refine lu ?_
        iterate 2 refine la ?_
        iterate 9 refine lu ?_
        iterate 2 refine la ?_
        refine wL_nil ?_; clear z1 z2 z3 z4 z5 z6 z7 z8 z9 z10 z11 z12 z13 z14 z15 z16 z17 z18; go_wp2_with fail
        have he0 := HEB.out; try simp only [decide_eq_true_eq, decide_eq_false_iff_not] at he0
        go_ret
        exact ⟨ret_b (by unfold sfOk; have := c1h.out; have := c2h.out; have := c3h.out; have := c4h.out; have := c5h.out; have := c6h.out; have := c7h.out; exact (decide_eq_false (by omega)).symm), H1.out.bl⟩
       have c6a : ((sh : Int) == (0)) = false := by simpa using c6
       have c6b : ((sh : Int) != (0)) = true := by simpa using c6
       have c6h := hid c6; clear c6; iterate 4 refine la ?_
       iterate 9 refine lu ?_
       iterate 2 refine la ?_
       iterate 13 refine lu ?_
       iterate 2 refine la ?_
       iterate 8 refine lu ?_
       iterate 2 refine la ?_
       iterate 7 refine lu ?_
       iterate 2 refine la ?_
       iterate 9 refine lu ?_
       iterate 2 refine la ?_
       refine wL_nil ?_; clear z1 z2 z3 z4 z5 z6 z7 z8 z9 z10 z11 z12 z13 z14 z15 z16 z17 z18; go_wp2_with fail
       have he0 := HEB.out; try simp only [decide_eq_true_eq, decide_eq_false_iff_not] at he0
       go_ret
       exact ⟨ret_b (by unfold sfOk; have := c1h.out; have := c2h.out; have := c3h.out; have := c4h.out; have := c5h.out; have := c6h.out; exact (decide_eq_false (by omega)).symm), H1.out.bl⟩
      have c5a : ((cn : Int) == (0)) = false := by simpa using c5
      have c5b : ((cn : Int) != (0)) = true := by simpa using c5
      have c5e : (cn == 0) = false := by simp; omega
      have c5f : (cn != 0) = true := by simp; omega
      have c5h := hid c5; clear c5; iterate 5 refine la ?_
      iterate 6 refine lu ?_
      iterate 2 refine la ?_
      iterate 9 refine lu ?_
      iterate 2 refine la ?_
      iterate 13 refine lu ?_
      iterate 2 refine la ?_
      iterate 8 refine lu ?_
      iterate 2 refine la ?_
      iterate 7 refine lu ?_
      iterate 2 refine la ?_
      iterate 9 refine lu ?_
      iterate 2 refine la ?_
      refine wL_nil ?_; clear z1 z2 z3 z4 z5 z6 z7 z8 z9 z10 z11 z12 z13 z14 z15 z16 z17 z18; go_wp2_with fail
      have he0 := HEB.out; try simp only [decide_eq_true_eq, decide_eq_false_iff_not] at he0
      go_ret
      exact ⟨ret_b (by unfold sfOk; have := c1h.out; have := c2h.out; have := c3h.out; have := c4h.out; have := c5h.out; exact (decide_eq_false (by omega)).symm), H1.out.bl⟩
     have c4a : ((rn : Int) == (0)) = false := by simpa using c4
     have c4b : ((rn : Int) != (0)) = true := by simpa using c4
     have c4e : (rn == 0) = false := by simp; omega
     have c4f : (rn != 0) = true := by simp; omega
     have c4h := hid c4; clear c4; iterate 2 refine la ?_
     iterate 4 refine lu ?_
     iterate 4 refine la ?_
     iterate 6 refine lu ?_
     iterate 2 refine la ?_
     iterate 9 refine lu ?_
     iterate 2 refine la ?_
     iterate 13 refine lu ?_
     iterate 2 refine la ?_
     iterate 8 refine lu ?_
     iterate 2 refine la ?_
     iterate 7 refine lu ?_
     iterate 2 refine la ?_
     iterate 9 refine lu ?_
     iterate 2 refine la ?_
     refine wL_nil ?_; clear z1 z2 z3 z4 z5 z6 z7 z8 z9 z10 z11 z12 z13 z14 z15 z16 z17 z18; go_wp2_with fail
     have he0 := HEB.out; try simp only [decide_eq_true_eq, decide_eq_false_iff_not] at he0
     go_ret
     exact ⟨ret_b (by unfold sfOk; have := c1h.out; have := c2h.out; have := c3h.out; have := c4h.out; exact (decide_eq_false (by omega)).symm), H1.out.bl⟩
    have c3a : ((wn : Int) == (0)) = false := by simpa using c3
    have c3b : ((wn : Int) != (0)) = true := by simpa using c3
    have c3e : (wn == 0) = false := by simp; omega
    have c3f : (wn != 0) = true := by simp; omega
    have c3h := hid c3; clear c3; iterate 5 refine la ?_
    iterate 13 refine lu ?_
    iterate 2 refine la ?_
    iterate 6 refine lu ?_
    iterate 2 refine la ?_
    iterate 9 refine lu ?_
    iterate 2 refine la ?_
    iterate 13 refine lu ?_
    iterate 2 refine la ?_
    iterate 8 refine lu ?_
    iterate 2 refine la ?_
    iterate 7 refine lu ?_
    iterate 2 refine la ?_
    iterate 9 refine lu ?_
    iterate 2 refine la ?_
    refine wL_nil ?_; clear z1 z2 z3 z4 z5 z6 z7 z8 z9 z10 z11 z12 z13 z14 z15 z16 z17 z18; go_wp2_with fail
    have he0 := HEB.out; try simp only [decide_eq_true_eq, decide_eq_false_iff_not] at he0
    go_ret
    exact ⟨ret_b (by unfold sfOk; have := c1h.out; have := c2h.out; have := c3h.out; exact (decide_eq_false (by omega)).symm), H1.out.bl⟩
   have c2a : ((kh : Int) == (0)) = false := by simpa using c2
   have c2b : ((kh : Int) != (0)) = true := by simpa using c2
   have c2h := hid c2; clear c2; iterate 3 refine la ?_
   iterate 4 refine lu ?_
   iterate 4 refine la ?_
   iterate 13 refine lu ?_
   iterate 2 refine la ?_
   iterate 6 refine lu ?_
   iterate 2 refine la ?_
   iterate 9 refine lu ?_
   iterate 2 refine la ?_
   iterate 13 refine lu ?_
   iterate 2 refine la ?_
   iterate 8 refine lu ?_
   iterate 2 refine la ?_
   iterate 7 refine lu ?_
   iterate 2 refine la ?_
   iterate 9 refine lu ?_
   iterate 2 refine la ?_
   refine wL_nil ?_; clear z1 z2 z3 z4 z5 z6 z7 z8 z9 z10 z11 z12 z13 z14 z15 z16 z17 z18; go_wp2_with fail
   have he0 := HEB.out; try simp only [decide_eq_true_eq, decide_eq_false_iff_not] at he0
   go_ret
   exact ⟨ret_b (by unfold sfOk; have := c1h.out; have := c2h.out; exact (decide_eq_false (by omega)).symm), H1.out.bl⟩
  have c1a : ((kw : Int) == (0)) = false := by simpa using c1
  have c1b : ((kw : Int) != (0)) = true := by simpa using c1
  have c1h := hid c1; clear c1; iterate 2 refine la ?_
  iterate 3 refine lu ?_
  iterate 2 refine la ?_
  iterate 4 refine lu ?_
  iterate 4 refine la ?_
  iterate 13 refine lu ?_
  iterate 2 refine la ?_
  iterate 6 refine lu ?_
  iterate 2 refine la ?_
  iterate 9 refine lu ?_
  iterate 2 refine la ?_
  iterate 13 refine lu ?_
  iterate 2 refine la ?_
  iterate 8 refine lu ?_
  iterate 2 refine la ?_
  iterate 7 refine lu ?_
  iterate 2 refine la ?_
  iterate 9 refine lu ?_
  iterate 2 refine la ?_
  refine wL_nil ?_; clear z1 z2 z3 z4 z5 z6 z7 z8 z9 z10 z11 z12 z13 z14 z15 z16 z17 z18; go_wp2_with fail
  have he0 := HEB.out; try simp only [decide_eq_true_eq, decide_eq_false_iff_not] at he0
  go_ret
  exact ⟨ret_b (by unfold sfOk; have := c1h.out; exact (decide_eq_false (by omega)).symm), H1.out.bl⟩
 iterate 3 refine la ?_
 iterate 17 refine lu ?_
 iterate 2 refine la ?_
 iterate 13 refine lu ?_
 iterate 2 refine la ?_
 iterate 6 refine lu ?_
 iterate 2 refine la ?_
 iterate 9 refine lu ?_
 iterate 2 refine la ?_
 iterate 13 refine lu ?_
 iterate 2 refine la ?_
 iterate 8 refine lu ?_
 iterate 2 refine la ?_
 iterate 7 refine lu ?_
 iterate 2 refine la ?_
 iterate 9 refine lu ?_
 iterate 2 refine la ?_
 refine wL_nil ?_; clear z1 z2 z3 z4 z5 z6 z7 z8 z9 z10 z11 z12 z13 z14 z15 z16 z17 z18; go_wp2_with fail
 have he0 := HEB.out; try simp only [decide_eq_true_eq, decide_eq_false_iff_not] at he0
 go_ret
 exact ⟨ret_b (by unfold sfOk; exact (decide_eq_false (by omega)).symm), H1.out.bl⟩
end Go.Proofs.Yteejjnhlfgjlaaa
