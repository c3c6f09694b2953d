/-
 Contract: which fields a stage may use, in the program, at the kind 3.
-/
import Derived.Test.YteejjnhlfgjlaaaStF
import Derived.Test.YteejjnhlfgjlaaaKH
namespace Go.Proofs.Yteejjnhlfgjlaaa
open Go.RowKit
attribute [local go_sem ↓] Go.wp_at_zero Go.wp_at_succ edge_eq edge_ne
set_option linter.unusedVariables false
set_option linter.unusedSimpArgs false

set_option maxRecDepth 100000 in
set_option maxHeartbeats 6400000 in
theorem sfields_3 (sa sb : Int) (bar : Bool) (ep ef kw kh : Int) (wa : Option Addr) (wn wc : Nat) (ra : Option Addr) (rn rc : Nat) (ca : Option Addr) (cn cc : Nat) (sh sh2 : Int) (xa : Option Addr) (xn xc : Nat) (ya : Option Addr) (yn yc : Nat) (bins : Int) (oa : Option Addr) (on oc : Nat) (mx : Int) (W : World) : Calls Try.prog 11 #[.agg #[.int .i64 3, .int .i64 sa, .int .i64 sb, .bool bar, .int .i64 ep, .int .i64 ef, .int .i64 kw, .int .i64 kh, .slice wa wn wc, .slice ra rn rc, .slice ca cn cc, .int .i64 sh, .int .i64 sh2, .slice xa xn xc, .slice ya yn yc, .int .i64 bins, .slice oa on oc, .int .i64 mx]] W fun e w' => e = .returned (.bool (sfOk 3 sb ep ef kw kh wn rn cn sh sh2 xn yn bins on mx)) ∧ Below W.heap.size W w' := by
 obtain ⟨B, hB⟩ : ∃ B, W.heap.size = B := ⟨_, rfl⟩; have HI0 := hid (St.init hB); obtain ⟨eb, heb⟩ : ∃ x, decide (ep = 0 ∧ ef = 0) = x := ⟨_, rfl⟩; have HEB := hid heb
 go_enter Try.func11, Try.ntmps11
 go_upto_region 1 with fail
 have H1 := hid (HI0.out.alloc #[.int .i64 3, .int .i64 sa, .int .i64 sb, .bool bar, .int .i64 ep, .int .i64 ef, .int .i64 kw, .int .i64 kh, .slice wa wn wc, .slice ra rn rc, .slice ca cn cc, .int .i64 sh, .int .i64 sh2, .slice xa xn xc, .slice ya yn yc, .int .i64 bins, .slice oa on oc, .int .i64 mx] 33 hB); first | refine gK H1 ?_ | refine gL H1 ?_ | refine gC H1 ?_
 clear H1; intro w1 H1; by_cases c1 : (sb : Int) = (-1)
 ·
  obtain ⟨c1c, c1d⟩ : (sb : Int) ≤ (-1) ∧ ((-1) : Int) ≤ sb := by omega
  have c1a : ((sb : Int) == ((-1))) = true := by simpa using c1
  have c1b : ((sb : Int) != ((-1))) = false := by simpa using c1
  have c1h := hid c1; clear c1; obtain ⟨z1, z2, z3, z4, z5, z6, z7, z8, z9, z10, z11, z12, z13, z14, z15, z16, z17, z18⟩ := cs18 H1.out 0 rfl; go_wp2_with fail
  clear z1 z2 z3 z4 z5 z6 z7 z8 z9 z10 z11 z12 z13 z14 z15 z16 z17 z18; refine (edged_any _ _).mono ?_; rintro e w2 ⟨rfl, hsw⟩; have hsw2 : w1 = w2 := by first | exact hsw | exact hsw.symm
  clear hsw; subst hsw2; rw [show edOk 3 = true from by decide]; obtain ⟨D1, hD1⟩ : ∃ D, w1.heap.size = D := ⟨_, rfl⟩; go_wp2_with fail
  have H2 := hid (H1.out.alloc #[.int .i64 1] 3 hD1); first | refine gK H2 ?_ | refine gL H2 ?_ | refine gC H2 ?_
  clear H2; intro w1 H2; clear hD1; refine (is_any _ _ _ [1] B _ _ (H2.out.lit 0 [1] rfl (by simp)) (by decide) (hid (H2.out.cell 1 rfl 0 rfl))).mono ?_; rintro e w1 ⟨rfl, hb⟩; have H3 := hid (H2.out.call hb); clear hb; rw [show isIn 3 [1] = false from by decide]; obtain ⟨D1, hD1⟩ : ∃ D, w1.heap.size = D := ⟨_, rfl⟩; go_wp2_with fail
  have H2 := hid (H3.out.alloc #[.int .i64 2] 3 hD1); first | refine gK H2 ?_ | refine gL H2 ?_ | refine gC H2 ?_
  clear H2; intro w1 H2; clear hD1; refine (is_any _ _ _ [2] B _ _ (H2.out.lit 0 [2] rfl (by simp)) (by decide) (hid (H2.out.cell 2 rfl 0 rfl))).mono ?_; rintro e w1 ⟨rfl, hb⟩; have H3 := hid (H2.out.call hb); clear hb; rw [show isIn 3 [2] = false from by decide]; obtain ⟨D1, hD1⟩ : ∃ D, w1.heap.size = D := ⟨_, rfl⟩; go_wp2_with fail
  have H2 := hid (H3.out.alloc #[.int .i64 3] 3 hD1); first | refine gK H2 ?_ | refine gL H2 ?_ | refine gC H2 ?_
  clear H2; intro w1 H2; clear hD1; refine (is_any _ _ _ [3] B _ _ (H2.out.lit 0 [3] rfl (by simp)) (by decide) (hid (H2.out.cell 3 rfl 0 rfl))).mono ?_; rintro e w1 ⟨rfl, hb⟩; have H3 := hid (H2.out.call hb); clear hb; rw [show isIn 3 [3] = true from by decide]; obtain ⟨D1, hD1⟩ : ∃ D, w1.heap.size = D := ⟨_, rfl⟩; go_wp2_with fail
  have H2 := hid (H3.out.alloc #[.int .i64 6] 3 hD1); first | refine gK H2 ?_ | refine gL H2 ?_ | refine gC H2 ?_
  clear H2; intro w1 H2; clear hD1; refine (is_any _ _ _ [6] B _ _ (H2.out.lit 0 [6] rfl (by simp)) (by decide) (hid (H2.out.cell 4 rfl 0 rfl))).mono ?_; rintro e w1 ⟨rfl, hb⟩; have H3 := hid (H2.out.call hb); clear hb; rw [show isIn 3 [6] = false from by decide]; go_upto_region 11 with fail
  first | refine wp_region_lit (wL_to ?_) | refine wp_seq (wp_region_lit (wL_to ?_))
  obtain ⟨z1, z2, z3, z4, z5, z6, z7, z8, z9, z10, z11, z12, z13, z14, z15, z16, z17, z18⟩ := cs18 H3.out 4 rfl; iterate 2 refine la ?_
  iterate 4 refine lu ?_
  iterate 6 refine la ?_
  by_cases c2 : (kw : Int) = 0
  ·
   obtain ⟨c2c, c2d⟩ : (kw : Int) ≤ 0 ∧ (0 : Int) ≤ kw := by omega
   have c2a : ((kw : Int) == (0)) = true := by simpa using c2
   have c2b : ((kw : Int) != (0)) = false := by simpa using c2
   have c2h := hid c2; clear c2; iterate 4 refine la ?_
   by_cases c3 : (kh : Int) = 0
   ·
    obtain ⟨c3c, c3d⟩ : (kh : Int) ≤ 0 ∧ (0 : Int) ≤ kh := by omega
    have c3a : ((kh : Int) == (0)) = true := by simpa using c3
    have c3b : ((kh : Int) != (0)) = false := by simpa using c3
    have c3h := hid c3; clear c3; iterate 6 refine la ?_
    by_cases c4 : (wn : Int) = 0
    ·
     obtain ⟨c4c, c4d⟩ : (wn : Int) ≤ 0 ∧ (0 : Int) ≤ wn := by omega
     have c4a : ((wn : Int) == (0)) = true := by simpa using c4
     have c4b : ((wn : Int) != (0)) = false := by simpa using c4
     have c4e : (wn == 0) = true := by simp; omega
     have c4f : (wn != 0) = false := by simp; omega
     have c4h := hid c4; clear c4; iterate 10 refine la ?_
     by_cases c5 : (rn : Int) = 0
     ·
      obtain ⟨c5c, c5d⟩ : (rn : Int) ≤ 0 ∧ (0 : Int) ≤ rn := by omega
      have c5a : ((rn : Int) == (0)) = true := by simpa using c5
      have c5b : ((rn : Int) != (0)) = false := by simpa using c5
      have c5e : (rn == 0) = true := by simp; omega
      have c5f : (rn != 0) = false := by simp; omega
      have c5h := hid c5; clear c5; iterate 5 refine la ?_
      by_cases c6 : (cn : Int) = 0
      ·
       obtain ⟨c6c, c6d⟩ : (cn : Int) ≤ 0 ∧ (0 : Int) ≤ cn := by omega
       have c6a : ((cn : Int) == (0)) = true := by simpa using c6
       have c6b : ((cn : Int) != (0)) = false := by simpa using c6
       have c6e : (cn == 0) = true := by simp; omega
       have c6f : (cn != 0) = false := by simp; omega
       have c6h := hid c6; clear c6; iterate 7 refine la ?_
       iterate 3 refine lu ?_
       iterate 8 refine la ?_
       iterate 3 refine lu ?_
       iterate 5 refine la ?_
       iterate 10 refine lu ?_
       iterate 4 refine la ?_
       obtain ⟨D1, hD1⟩ : ∃ D, w1.heap.size = D := ⟨_, rfl⟩; refine lsB ?_; try simp only [pz]
       have H2 := hid (H3.out.alloc #[.int .i64 4] 3 hD1); clear hD1; generalize (w1.alloc (.cells #[.int .i64 4] 3)) = k1 at *; clear z1 z2 z3 z4 z5 z6 z7 z8 z9 z10 z11 z12 z13 z14 z15 z16 z17 z18; obtain ⟨z19, z20, z21, z22, z23, z24, z25, z26, z27, z28, z29, z30, z31, z32, z33, z34, z35, z36⟩ := cs18 H2.out 5 rfl; refine lsC ?_; refine (is_any _ _ _ [4] B _ _ (H2.out.lit 0 [4] rfl (by simp)) (by decide) (hid (H2.out.cell 5 rfl 0 rfl))).mono ?_; rintro e w1 ⟨rfl, hb⟩; have H4 := hid (H2.out.call hb); clear hb; rw [show isIn 3 [4] = false from by decide]; refine ⟨_, rfl, ?_⟩; try simp only [pz]
       clear z19 z20 z21 z22 z23 z24 z25 z26 z27 z28 z29 z30 z31 z32 z33 z34 z35 z36; obtain ⟨z19, z20, z21, z22, z23, z24, z25, z26, z27, z28, z29, z30, z31, z32, z33, z34, z35, z36⟩ := cs18 H4.out 5 rfl; iterate 3 refine la ?_
       by_cases c7 : (bins : Int) = 0
       ·
        obtain ⟨c7c, c7d⟩ : (bins : Int) ≤ 0 ∧ (0 : Int) ≤ bins := by omega
        have c7a : ((bins : Int) == (0)) = true := by simpa using c7
        have c7b : ((bins : Int) != (0)) = false := by simpa using c7
        have c7h := hid c7; clear c7; iterate 9 refine la ?_
        by_cases c8 : (on : Int) = 0
        ·
         obtain ⟨c8c, c8d⟩ : (on : Int) ≤ 0 ∧ (0 : Int) ≤ on := by omega
         have c8a : ((on : Int) == (0)) = true := by simpa using c8
         have c8b : ((on : Int) != (0)) = false := by simpa using c8
         have c8e : (on == 0) = true := by simp; omega
         have c8f : (on != 0) = false := by simp; omega
         have c8h := hid c8; clear c8; iterate 6 refine la ?_
         refine lu ?_; iterate 2 refine la ?_
         iterate 3 refine lu ?_
         iterate 3 refine la ?_
         refine wL_nil ?_; clear z19 z20 z21 z22 z23 z24 z25 z26 z27 z28 z29 z30 z31 z32 z33 z34 z35 z36; go_wp2_with fail
         have he0 := HEB.out; try simp only [decide_eq_true_eq, decide_eq_false_iff_not] at he0
         go_ret
         exact ⟨ret_b (by unfold sfOk; have := c1h.out; have := c2h.out; have := c3h.out; have := c4h.out; have := c5h.out; have := c6h.out; have := c7h.out; have := c8h.out; exact (decide_eq_true (by omega)).symm), H4.out.bl⟩
        have c8a : ((on : Int) == (0)) = false := by simpa using c8
        have c8b : ((on : Int) != (0)) = true := by simpa using c8
        have c8e : (on == 0) = false := by simp; omega
        have c8f : (on != 0) = true := by simp; omega
        have c8h := hid c8; clear c8; iterate 4 refine la ?_
        iterate 9 refine lu ?_
        iterate 2 refine la ?_
        refine wL_nil ?_; clear z19 z20 z21 z22 z23 z24 z25 z26 z27 z28 z29 z30 z31 z32 z33 z34 z35 z36; go_wp2_with fail
        have he0 := HEB.out; try simp only [decide_eq_true_eq, decide_eq_false_iff_not] at he0
        go_ret
        exact ⟨ret_b (by unfold sfOk; have := c1h.out; have := c2h.out; have := c3h.out; have := c4h.out; have := c5h.out; have := c6h.out; have := c7h.out; have := c8h.out; exact (decide_eq_false (by omega)).symm), H4.out.bl⟩
       have c7a : ((bins : Int) == (0)) = false := by simpa using c7
       have c7b : ((bins : Int) != (0)) = true := by simpa using c7
       have c7h := hid c7; clear c7; iterate 4 refine la ?_
       iterate 7 refine lu ?_
       iterate 2 refine la ?_
       iterate 9 refine lu ?_
       iterate 2 refine la ?_
       refine wL_nil ?_; clear z19 z20 z21 z22 z23 z24 z25 z26 z27 z28 z29 z30 z31 z32 z33 z34 z35 z36; go_wp2_with fail
       have he0 := HEB.out; try simp only [decide_eq_true_eq, decide_eq_false_iff_not] at he0
       go_ret
       exact ⟨ret_b (by unfold sfOk; have := c1h.out; have := c2h.out; have := c3h.out; have := c4h.out; have := c5h.out; have := c6h.out; have := c7h.out; exact (decide_eq_false (by omega)).symm), H4.out.bl⟩
      have c6a : ((cn : Int) == (0)) = false := by simpa using c6
      have c6b : ((cn : Int) != (0)) = true := by simpa using c6
      have c6e : (cn == 0) = false := by simp; omega
      have c6f : (cn != 0) = true := by simp; omega
      have c6h := hid c6; clear c6; iterate 5 refine la ?_
      iterate 6 refine lu ?_
      iterate 2 refine la ?_
      iterate 9 refine lu ?_
      iterate 2 refine la ?_
      iterate 13 refine lu ?_
      iterate 2 refine la ?_
      iterate 8 refine lu ?_
      iterate 2 refine la ?_
      iterate 7 refine lu ?_
      iterate 2 refine la ?_
      iterate 9 refine lu ?_
      iterate 2 refine la ?_
      refine wL_nil ?_; clear z1 z2 z3 z4 z5 z6 z7 z8 z9 z10 z11 z12 z13 z14 z15 z16 z17 z18; go_wp2_with fail
      have he0 := HEB.out; try simp only [decide_eq_true_eq, decide_eq_false_iff_not] at he0
      go_ret
      exact ⟨ret_b (by unfold sfOk; have := c1h.out; have := c2h.out; have := c3h.out; have := c4h.out; have := c5h.out; have := c6h.out; exact (decide_eq_false (by omega)).symm), H3.out.bl⟩
     have c5a : ((rn : Int) == (0)) = false := by simpa using c5
     have c5b : ((rn : Int) != (0)) = true := by simpa using c5
     have c5e : (rn == 0) = false := by simp; omega
     have c5f : (rn != 0) = true := by simp; omega
     have c5h := hid c5; clear c5; iterate 2 refine la ?_
     iterate 4 refine lu ?_
     iterate 4 refine la ?_
     iterate 6 refine lu ?_
     iterate 2 refine la ?_
     iterate 9 refine lu ?_
     iterate 2 refine la ?_
     iterate 13 refine lu ?_
     iterate 2 refine la ?_
     iterate 8 refine lu ?_
     iterate 2 refine la ?_
     iterate 7 refine lu ?_
     iterate 2 refine la ?_
     iterate 9 refine lu ?_
     iterate 2 refine la ?_
     refine wL_nil ?_; clear z1 z2 z3 z4 z5 z6 z7 z8 z9 z10 z11 z12 z13 z14 z15 z16 z17 z18; go_wp2_with fail
     have he0 := HEB.out; try simp only [decide_eq_true_eq, decide_eq_false_iff_not] at he0
     go_ret
     exact ⟨ret_b (by unfold sfOk; have := c1h.out; have := c2h.out; have := c3h.out; have := c4h.out; have := c5h.out; exact (decide_eq_false (by omega)).symm), H3.out.bl⟩
    have c4a : ((wn : Int) == (0)) = false := by simpa using c4
    have c4b : ((wn : Int) != (0)) = true := by simpa using c4
    have c4e : (wn == 0) = false := by simp; omega
    have c4f : (wn != 0) = true := by simp; omega
    have c4h := hid c4; clear c4; iterate 5 refine la ?_
    iterate 13 refine lu ?_
    iterate 2 refine la ?_
    iterate 6 refine lu ?_
    iterate 2 refine la ?_
    iterate 9 refine lu ?_
    iterate 2 refine la ?_
    iterate 13 refine lu ?_
    iterate 2 refine la ?_
    iterate 8 refine lu ?_
    iterate 2 refine la ?_
    iterate 7 refine lu ?_
    iterate 2 refine la ?_
    iterate 9 refine lu ?_
    iterate 2 refine la ?_
    refine wL_nil ?_; clear z1 z2 z3 z4 z5 z6 z7 z8 z9 z10 z11 z12 z13 z14 z15 z16 z17 z18; go_wp2_with fail
    have he0 := HEB.out; try simp only [decide_eq_true_eq, decide_eq_false_iff_not] at he0
    go_ret
    exact ⟨ret_b (by unfold sfOk; have := c1h.out; have := c2h.out; have := c3h.out; have := c4h.out; exact (decide_eq_false (by omega)).symm), H3.out.bl⟩
   have c3a : ((kh : Int) == (0)) = false := by simpa using c3
   have c3b : ((kh : Int) != (0)) = true := by simpa using c3
   have c3h := hid c3; clear c3; iterate 3 refine la ?_
   iterate 4 refine lu ?_
   iterate 4 refine la ?_
   iterate 13 refine lu ?_
   iterate 2 refine la ?_
   iterate 6 refine lu ?_
   iterate 2 refine la ?_
   iterate 9 refine lu ?_
   iterate 2 refine la ?_
   iterate 13 refine lu ?_
   iterate 2 refine la ?_
   iterate 8 refine lu ?_
   iterate 2 refine la ?_
   iterate 7 refine lu ?_
   iterate 2 refine la ?_
   iterate 9 refine lu ?_
   iterate 2 refine la ?_
   refine wL_nil ?_; clear z1 z2 z3 z4 z5 z6 z7 z8 z9 z10 z11 z12 z13 z14 z15 z16 z17 z18; go_wp2_with fail
   have he0 := HEB.out; try simp only [decide_eq_true_eq, decide_eq_false_iff_not] at he0
   go_ret
   exact ⟨ret_b (by unfold sfOk; have := c1h.out; have := c2h.out; have := c3h.out; exact (decide_eq_false (by omega)).symm), H3.out.bl⟩
  have c2a : ((kw : Int) == (0)) = false := by simpa using c2
  have c2b : ((kw : Int) != (0)) = true := by simpa using c2
  have c2h := hid c2; clear c2; iterate 2 refine la ?_
  iterate 3 refine lu ?_
  iterate 2 refine la ?_
  iterate 4 refine lu ?_
  iterate 4 refine la ?_
  iterate 13 refine lu ?_
  iterate 2 refine la ?_
  iterate 6 refine lu ?_
  iterate 2 refine la ?_
  iterate 9 refine lu ?_
  iterate 2 refine la ?_
  iterate 13 refine lu ?_
  iterate 2 refine la ?_
  iterate 8 refine lu ?_
  iterate 2 refine la ?_
  iterate 7 refine lu ?_
  iterate 2 refine la ?_
  iterate 9 refine lu ?_
  iterate 2 refine la ?_
  refine wL_nil ?_; clear z1 z2 z3 z4 z5 z6 z7 z8 z9 z10 z11 z12 z13 z14 z15 z16 z17 z18; go_wp2_with fail
  have he0 := HEB.out; try simp only [decide_eq_true_eq, decide_eq_false_iff_not] at he0
  go_ret
  exact ⟨ret_b (by unfold sfOk; have := c1h.out; have := c2h.out; exact (decide_eq_false (by omega)).symm), H3.out.bl⟩
 have c1a : ((sb : Int) == ((-1))) = false := by simpa using c1
 have c1b : ((sb : Int) != ((-1))) = true := by simpa using c1
 have c1h := hid c1; clear c1; obtain ⟨z1, z2, z3, z4, z5, z6, z7, z8, z9, z10, z11, z12, z13, z14, z15, z16, z17, z18⟩ := cs18 H1.out 0 rfl; go_wp2_with fail
 clear z1 z2 z3 z4 z5 z6 z7 z8 z9 z10 z11 z12 z13 z14 z15 z16 z17 z18; have he0 := HEB.out; try simp only [decide_eq_true_eq, decide_eq_false_iff_not] at he0
 go_ret
 exact ⟨ret_b (by unfold sfOk; have := c1h.out; exact (decide_eq_false (by omega)).symm), H1.out.bl⟩
end Go.Proofs.Yteejjnhlfgjlaaa
