/-
 Contract: which fields a stage may use, in the reference.
-/
import Derived.Test.YteejjnhlfgjlaaaStF
import Derived.Test.YteejjnhlfgjlaaaKH
namespace Go.Proofs.Yteejjnhlfgjlaaa
open Go.RowKit
attribute [local go_sem ↓] Go.wp_at_zero Go.wp_at_succ edge_eq edge_ne
set_option linter.unusedVariables false
set_option linter.unusedSimpArgs false

set_option maxRecDepth 100000 in
set_option maxHeartbeats 6400000 in
theorem rsfields_1 (sa sb : Int) (bar : Bool) (ep ef kw kh : Int) (wa : Option Addr) (wn wc : Nat) (ra : Option Addr) (rn rc : Nat) (ca : Option Addr) (cn cc : Nat) (sh sh2 : Int) (xa : Option Addr) (xn xc : Nat) (ya : Option Addr) (yn yc : Nat) (bins : Int) (oa : Option Addr) (on oc : Nat) (mx : Int) (W : World) : Calls Try.prog 12 #[.agg #[.int .i64 1, .int .i64 sa, .int .i64 sb, .bool bar, .int .i64 ep, .int .i64 ef, .int .i64 kw, .int .i64 kh, .slice wa wn wc, .slice ra rn rc, .slice ca cn cc, .int .i64 sh, .int .i64 sh2, .slice xa xn xc, .slice ya yn yc, .int .i64 bins, .slice oa on oc, .int .i64 mx]] W fun e w' => e = .returned (.bool (sfOk 1 sb ep ef kw kh wn rn cn sh sh2 xn yn bins on mx)) ∧ Below W.heap.size W w' := by
 obtain ⟨B, hB⟩ : ∃ B, W.heap.size = B := ⟨_, rfl⟩; have HI0 := hid (St.init hB); obtain ⟨eb, heb⟩ : ∃ x, decide (ep = 0 ∧ ef = 0) = x := ⟨_, rfl⟩; have HEB := hid heb
 go_enter Try.func12, Try.ntmps12
 go_upto_region 1 with fail
 have H1 := hid (HI0.out.alloc #[.int .i64 1, .int .i64 sa, .int .i64 sb, .bool bar, .int .i64 ep, .int .i64 ef, .int .i64 kw, .int .i64 kh, .slice wa wn wc, .slice ra rn rc, .slice ca cn cc, .int .i64 sh, .int .i64 sh2, .slice xa xn xc, .slice ya yn yc, .int .i64 bins, .slice oa on oc, .int .i64 mx] 33 hB); first | refine gK H1 ?_ | refine gL H1 ?_ | refine gC H1 ?_
 clear H1; intro w1 H1; by_cases c1 : (sb : Int) = (-1)
 ·
  obtain ⟨c1c, c1d⟩ : (sb : Int) ≤ (-1) ∧ ((-1) : Int) ≤ sb := by omega
  have c1a : ((sb : Int) == ((-1))) = true := by simpa using c1
  have c1b : ((sb : Int) != ((-1))) = false := by simpa using c1
  have c1h := hid c1; clear c1; obtain ⟨z1, z2, z3, z4, z5, z6, z7, z8, z9, z10, z11, z12, z13, z14, z15, z16, z17, z18⟩ := cs18 H1.out 0 rfl; go_upto_region 3 with fail
  clear z1 z2 z3 z4 z5 z6 z7 z8 z9 z10 z11 z12 z13 z14 z15 z16 z17 z18; have H2 := hid H1.out.drew; refine wp_region_held_drew (S := (fun w' => w'.cell? ⟨B, 0, none⟩ = some (.int .i64 1) ∧ w'.cell? ⟨B, 1, none⟩ = some (.int .i64 sa) ∧ w'.cell? ⟨B, 2, none⟩ = some (.int .i64 sb) ∧ w'.cell? ⟨B, 3, none⟩ = some (.bool bar) ∧ w'.cell? ⟨B, 4, none⟩ = some (.int .i64 ep) ∧ w'.cell? ⟨B, 5, none⟩ = some (.int .i64 ef) ∧ w'.cell? ⟨B, 6, none⟩ = some (.int .i64 kw) ∧ w'.cell? ⟨B, 7, none⟩ = some (.int .i64 kh) ∧ w'.cell? ⟨B, 8, none⟩ = some (.slice wa wn wc) ∧ w'.cell? ⟨B, 9, none⟩ = some (.slice ra rn rc) ∧ w'.cell? ⟨B, 10, none⟩ = some (.slice ca cn cc) ∧ w'.cell? ⟨B, 11, none⟩ = some (.int .i64 sh) ∧ w'.cell? ⟨B, 12, none⟩ = some (.int .i64 sh2) ∧ w'.cell? ⟨B, 13, none⟩ = some (.slice xa xn xc) ∧ w'.cell? ⟨B, 14, none⟩ = some (.slice ya yn yc) ∧ w'.cell? ⟨B, 15, none⟩ = some (.int .i64 bins) ∧ w'.cell? ⟨B, 16, none⟩ = some (.slice oa on oc) ∧ w'.cell? ⟨B, 17, none⟩ = some (.int .i64 mx))) (by kernel_rfl) ⟨H2.out.cell 0 rfl 0 rfl, H2.out.cell 0 rfl 1 rfl, H2.out.cell 0 rfl 2 rfl, H2.out.cell 0 rfl 3 rfl, H2.out.cell 0 rfl 4 rfl, H2.out.cell 0 rfl 5 rfl, H2.out.cell 0 rfl 6 rfl, H2.out.cell 0 rfl 7 rfl, H2.out.cell 0 rfl 8 rfl, H2.out.cell 0 rfl 9 rfl, H2.out.cell 0 rfl 10 rfl, H2.out.cell 0 rfl 11 rfl, H2.out.cell 0 rfl 12 rfl, H2.out.cell 0 rfl 13 rfl, H2.out.cell 0 rfl 14 rfl, H2.out.cell 0 rfl 15 rfl, H2.out.cell 0 rfl 16 rfl, H2.out.cell 0 rfl 17 rfl⟩ (fun hHeld => ?_); generalize w1.drew = k1 at *; refine tk 0 ?_; refine tk 1 ?_; refine tk 2 ?_; refine tk 3 ?_; refine tk 4 ?_; refine tk 5 ?_; refine tk 6 ?_; refine tk 7 ?_; refine tk 8 ?_; refine tk 9 ?_; refine tk 10 ?_; refine tk 11 ?_; refine wpAnyH_done (by kernel_rfl) ?_ _; try clear hHeld
  obtain ⟨z1, z2, z3, z4, z5, z6, z7, z8, z9, z10, z11, z12, z13, z14, z15, z16, z17, z18⟩ := cs18 H2.out 0 rfl; go_wp2_with fail
  clear z1 z2 z3 z4 z5 z6 z7 z8 z9 z10 z11 z12 z13 z14 z15 z16 z17 z18; refine (redged_any _ _).mono ?_; rintro e w1 ⟨rfl, hsw⟩; have hsw2 : k1 = w1 := by first | exact hsw | exact hsw.symm
  clear hsw; subst hsw2; rw [show edOk 1 = true from by decide]; by_cases c2 : (0 : Int) < rn
  ·
   obtain ⟨z1, z2, z3, z4, z5, z6, z7, z8, z9, z10, z11, z12, z13, z14, z15, z16, z17, z18⟩ := cs18 H2.out 0 rfl; go_wp2_with fail
   clear z1 z2 z3 z4 z5 z6 z7 z8 z9 z10 z11 z12 z13 z14 z15 z16 z17 z18; have he0 := HEB.out; try simp only [decide_eq_true_eq, decide_eq_false_iff_not] at he0
   go_ret
   exact ⟨ret_b (by unfold sfOk; have := c1h.out; exact (decide_eq_false (by omega)).symm), H2.out.bl⟩
  by_cases c2 : (0 : Int) < cn
  ·
   obtain ⟨z1, z2, z3, z4, z5, z6, z7, z8, z9, z10, z11, z12, z13, z14, z15, z16, z17, z18⟩ := cs18 H2.out 0 rfl; go_wp2_with fail
   clear z1 z2 z3 z4 z5 z6 z7 z8 z9 z10 z11 z12 z13 z14 z15 z16 z17 z18; have he0 := HEB.out; try simp only [decide_eq_true_eq, decide_eq_false_iff_not] at he0
   go_ret
   exact ⟨ret_b (by unfold sfOk; have := c1h.out; exact (decide_eq_false (by omega)).symm), H2.out.bl⟩
  by_cases c2 : (0 : Int) < xn
  ·
   obtain ⟨z1, z2, z3, z4, z5, z6, z7, z8, z9, z10, z11, z12, z13, z14, z15, z16, z17, z18⟩ := cs18 H2.out 0 rfl; go_wp2_with fail
   clear z1 z2 z3 z4 z5 z6 z7 z8 z9 z10 z11 z12 z13 z14 z15 z16 z17 z18; have he0 := HEB.out; try simp only [decide_eq_true_eq, decide_eq_false_iff_not] at he0
   go_ret
   exact ⟨ret_b (by unfold sfOk; have := c1h.out; exact (decide_eq_false (by omega)).symm), H2.out.bl⟩
  by_cases c2 : (0 : Int) < yn
  ·
   obtain ⟨z1, z2, z3, z4, z5, z6, z7, z8, z9, z10, z11, z12, z13, z14, z15, z16, z17, z18⟩ := cs18 H2.out 0 rfl; go_wp2_with fail
   clear z1 z2 z3 z4 z5 z6 z7 z8 z9 z10 z11 z12 z13 z14 z15 z16 z17 z18; have he0 := HEB.out; try simp only [decide_eq_true_eq, decide_eq_false_iff_not] at he0
   go_ret
   exact ⟨ret_b (by unfold sfOk; have := c1h.out; exact (decide_eq_false (by omega)).symm), H2.out.bl⟩
  obtain ⟨z1, z2, z3, z4, z5, z6, z7, z8, z9, z10, z11, z12, z13, z14, z15, z16, z17, z18⟩ := cs18 H2.out 0 rfl; go_wp2_with fail
  clear z1 z2 z3 z4 z5 z6 z7 z8 z9 z10 z11 z12 z13 z14 z15 z16 z17 z18; refine (redged_any _ _).mono ?_; rintro e w1 ⟨rfl, hsw⟩; have hsw2 : k1 = w1 := by first | exact hsw | exact hsw.symm
  clear hsw; subst hsw2; rw [show edOk 1 = true from by decide]; by_cases c2 : (sh2 : Int) = 0
  ·
   obtain ⟨c2c, c2d⟩ : (sh2 : Int) ≤ 0 ∧ (0 : Int) ≤ sh2 := by omega
   have c2a : ((sh2 : Int) == (0)) = true := by simpa using c2
   have c2b : ((sh2 : Int) != (0)) = false := by simpa using c2
   have c2h := hid c2; clear c2; by_cases c3 : (bins : Int) = 0
   ·
    obtain ⟨c3c, c3d⟩ : (bins : Int) ≤ 0 ∧ (0 : Int) ≤ bins := by omega
    have c3a : ((bins : Int) == (0)) = true := by simpa using c3
    have c3b : ((bins : Int) != (0)) = false := by simpa using c3
    have c3h := hid c3; clear c3; by_cases c4 : (0 : Int) < on
    ·
     obtain ⟨z1, z2, z3, z4, z5, z6, z7, z8, z9, z10, z11, z12, z13, z14, z15, z16, z17, z18⟩ := cs18 H2.out 0 rfl; go_wp2_with fail
     clear z1 z2 z3 z4 z5 z6 z7 z8 z9 z10 z11 z12 z13 z14 z15 z16 z17 z18; have he0 := HEB.out; try simp only [decide_eq_true_eq, decide_eq_false_iff_not] at he0
     go_ret
     exact ⟨ret_b (by unfold sfOk; have := c1h.out; have := c2h.out; have := c3h.out; exact (decide_eq_false (by omega)).symm), H2.out.bl⟩
    obtain ⟨z1, z2, z3, z4, z5, z6, z7, z8, z9, z10, z11, z12, z13, z14, z15, z16, z17, z18⟩ := cs18 H2.out 0 rfl; go_wp2_with fail
    clear z1 z2 z3 z4 z5 z6 z7 z8 z9 z10 z11 z12 z13 z14 z15 z16 z17 z18; have he0 := HEB.out; try simp only [decide_eq_true_eq, decide_eq_false_iff_not] at he0
    go_ret
    exact ⟨ret_b (by unfold sfOk; have := c1h.out; have := c2h.out; have := c3h.out; exact (decide_eq_true (by omega)).symm), H2.out.bl⟩
   have c3a : ((bins : Int) == (0)) = false := by simpa using c3
   have c3b : ((bins : Int) != (0)) = true := by simpa using c3
   have c3h := hid c3; clear c3; obtain ⟨z1, z2, z3, z4, z5, z6, z7, z8, z9, z10, z11, z12, z13, z14, z15, z16, z17, z18⟩ := cs18 H2.out 0 rfl; go_wp2_with fail
   clear z1 z2 z3 z4 z5 z6 z7 z8 z9 z10 z11 z12 z13 z14 z15 z16 z17 z18; have he0 := HEB.out; try simp only [decide_eq_true_eq, decide_eq_false_iff_not] at he0
   go_ret
   exact ⟨ret_b (by unfold sfOk; have := c1h.out; have := c2h.out; have := c3h.out; exact (decide_eq_false (by omega)).symm), H2.out.bl⟩
  have c2a : ((sh2 : Int) == (0)) = false := by simpa using c2
  have c2b : ((sh2 : Int) != (0)) = true := by simpa using c2
  have c2h := hid c2; clear c2; obtain ⟨z1, z2, z3, z4, z5, z6, z7, z8, z9, z10, z11, z12, z13, z14, z15, z16, z17, z18⟩ := cs18 H2.out 0 rfl; go_wp2_with fail
  clear z1 z2 z3 z4 z5 z6 z7 z8 z9 z10 z11 z12 z13 z14 z15 z16 z17 z18; have he0 := HEB.out; try simp only [decide_eq_true_eq, decide_eq_false_iff_not] at he0
  go_ret
  exact ⟨ret_b (by unfold sfOk; have := c1h.out; have := c2h.out; exact (decide_eq_false (by omega)).symm), H2.out.bl⟩
 have c1a : ((sb : Int) == ((-1))) = false := by simpa using c1
 have c1b : ((sb : Int) != ((-1))) = true := by simpa using c1
 have c1h := hid c1; clear c1; obtain ⟨z1, z2, z3, z4, z5, z6, z7, z8, z9, z10, z11, z12, z13, z14, z15, z16, z17, z18⟩ := cs18 H1.out 0 rfl; go_wp2_with fail
 clear z1 z2 z3 z4 z5 z6 z7 z8 z9 z10 z11 z12 z13 z14 z15 z16 z17 z18; have he0 := HEB.out; try simp only [decide_eq_true_eq, decide_eq_false_iff_not] at he0
 go_ret
 exact ⟨ret_b (by unfold sfOk; have := c1h.out; exact (decide_eq_false (by omega)).symm), H1.out.bl⟩

set_option maxRecDepth 100000 in
set_option maxHeartbeats 6400000 in
theorem rsfields_2 (sa sb : Int) (bar : Bool) (ep ef kw kh : Int) (wa : Option Addr) (wn wc : Nat) (ra : Option Addr) (rn rc : Nat) (ca : Option Addr) (cn cc : Nat) (sh sh2 : Int) (xa : Option Addr) (xn xc : Nat) (ya : Option Addr) (yn yc : Nat) (bins : Int) (oa : Option Addr) (on oc : Nat) (mx : Int) (W : World) : Calls Try.prog 12 #[.agg #[.int .i64 2, .int .i64 sa, .int .i64 sb, .bool bar, .int .i64 ep, .int .i64 ef, .int .i64 kw, .int .i64 kh, .slice wa wn wc, .slice ra rn rc, .slice ca cn cc, .int .i64 sh, .int .i64 sh2, .slice xa xn xc, .slice ya yn yc, .int .i64 bins, .slice oa on oc, .int .i64 mx]] W fun e w' => e = .returned (.bool (sfOk 2 sb ep ef kw kh wn rn cn sh sh2 xn yn bins on mx)) ∧ Below W.heap.size W w' := by
 obtain ⟨B, hB⟩ : ∃ B, W.heap.size = B := ⟨_, rfl⟩; have HI0 := hid (St.init hB); obtain ⟨eb, heb⟩ : ∃ x, decide (ep = 0 ∧ ef = 0) = x := ⟨_, rfl⟩; have HEB := hid heb
 go_enter Try.func12, Try.ntmps12
 go_upto_region 1 with fail
 have H1 := hid (HI0.out.alloc #[.int .i64 2, .int .i64 sa, .int .i64 sb, .bool bar, .int .i64 ep, .int .i64 ef, .int .i64 kw, .int .i64 kh, .slice wa wn wc, .slice ra rn rc, .slice ca cn cc, .int .i64 sh, .int .i64 sh2, .slice xa xn xc, .slice ya yn yc, .int .i64 bins, .slice oa on oc, .int .i64 mx] 33 hB); first | refine gK H1 ?_ | refine gL H1 ?_ | refine gC H1 ?_
 clear H1; intro w1 H1; by_cases c1 : (sb : Int) = (-1)
 ·
  obtain ⟨c1c, c1d⟩ : (sb : Int) ≤ (-1) ∧ ((-1) : Int) ≤ sb := by omega
  have c1a : ((sb : Int) == ((-1))) = true := by simpa using c1
  have c1b : ((sb : Int) != ((-1))) = false := by simpa using c1
  have c1h := hid c1; clear c1; obtain ⟨z1, z2, z3, z4, z5, z6, z7, z8, z9, z10, z11, z12, z13, z14, z15, z16, z17, z18⟩ := cs18 H1.out 0 rfl; go_upto_region 3 with fail
  clear z1 z2 z3 z4 z5 z6 z7 z8 z9 z10 z11 z12 z13 z14 z15 z16 z17 z18; have H2 := hid H1.out.drew; refine wp_region_held_drew (S := (fun w' => w'.cell? ⟨B, 0, none⟩ = some (.int .i64 2) ∧ w'.cell? ⟨B, 1, none⟩ = some (.int .i64 sa) ∧ w'.cell? ⟨B, 2, none⟩ = some (.int .i64 sb) ∧ w'.cell? ⟨B, 3, none⟩ = some (.bool bar) ∧ w'.cell? ⟨B, 4, none⟩ = some (.int .i64 ep) ∧ w'.cell? ⟨B, 5, none⟩ = some (.int .i64 ef) ∧ w'.cell? ⟨B, 6, none⟩ = some (.int .i64 kw) ∧ w'.cell? ⟨B, 7, none⟩ = some (.int .i64 kh) ∧ w'.cell? ⟨B, 8, none⟩ = some (.slice wa wn wc) ∧ w'.cell? ⟨B, 9, none⟩ = some (.slice ra rn rc) ∧ w'.cell? ⟨B, 10, none⟩ = some (.slice ca cn cc) ∧ w'.cell? ⟨B, 11, none⟩ = some (.int .i64 sh) ∧ w'.cell? ⟨B, 12, none⟩ = some (.int .i64 sh2) ∧ w'.cell? ⟨B, 13, none⟩ = some (.slice xa xn xc) ∧ w'.cell? ⟨B, 14, none⟩ = some (.slice ya yn yc) ∧ w'.cell? ⟨B, 15, none⟩ = some (.int .i64 bins) ∧ w'.cell? ⟨B, 16, none⟩ = some (.slice oa on oc) ∧ w'.cell? ⟨B, 17, none⟩ = some (.int .i64 mx))) (by kernel_rfl) ⟨H2.out.cell 0 rfl 0 rfl, H2.out.cell 0 rfl 1 rfl, H2.out.cell 0 rfl 2 rfl, H2.out.cell 0 rfl 3 rfl, H2.out.cell 0 rfl 4 rfl, H2.out.cell 0 rfl 5 rfl, H2.out.cell 0 rfl 6 rfl, H2.out.cell 0 rfl 7 rfl, H2.out.cell 0 rfl 8 rfl, H2.out.cell 0 rfl 9 rfl, H2.out.cell 0 rfl 10 rfl, H2.out.cell 0 rfl 11 rfl, H2.out.cell 0 rfl 12 rfl, H2.out.cell 0 rfl 13 rfl, H2.out.cell 0 rfl 14 rfl, H2.out.cell 0 rfl 15 rfl, H2.out.cell 0 rfl 16 rfl, H2.out.cell 0 rfl 17 rfl⟩ (fun hHeld => ?_); generalize w1.drew = k1 at *; refine tk 0 ?_; refine tk 1 ?_; refine tk 2 ?_; refine tk 3 ?_; refine tk 4 ?_; refine tk 5 ?_; refine tk 6 ?_; refine tk 7 ?_; refine tk 8 ?_; refine tk 9 ?_; refine tk 10 ?_; refine tk 11 ?_; refine wpAnyH_done (by kernel_rfl) ?_ _; try clear hHeld
  obtain ⟨z1, z2, z3, z4, z5, z6, z7, z8, z9, z10, z11, z12, z13, z14, z15, z16, z17, z18⟩ := cs18 H2.out 0 rfl; go_wp2_with fail
  clear z1 z2 z3 z4 z5 z6 z7 z8 z9 z10 z11 z12 z13 z14 z15 z16 z17 z18; refine (redged_any _ _).mono ?_; rintro e w1 ⟨rfl, hsw⟩; have hsw2 : k1 = w1 := by first | exact hsw | exact hsw.symm
  clear hsw; subst hsw2; rw [show edOk 2 = true from by decide]; by_cases c2 : (kw : Int) = 0
  ·
   obtain ⟨c2c, c2d⟩ : (kw : Int) ≤ 0 ∧ (0 : Int) ≤ kw := by omega
   have c2a : ((kw : Int) == (0)) = true := by simpa using c2
   have c2b : ((kw : Int) != (0)) = false := by simpa using c2
   have c2h := hid c2; clear c2; by_cases c3 : (kh : Int) = 0
   ·
    obtain ⟨c3c, c3d⟩ : (kh : Int) ≤ 0 ∧ (0 : Int) ≤ kh := by omega
    have c3a : ((kh : Int) == (0)) = true := by simpa using c3
    have c3b : ((kh : Int) != (0)) = false := by simpa using c3
    have c3h := hid c3; clear c3; by_cases c4 : (0 : Int) < wn
    ·
     obtain ⟨z1, z2, z3, z4, z5, z6, z7, z8, z9, z10, z11, z12, z13, z14, z15, z16, z17, z18⟩ := cs18 H2.out 0 rfl; go_wp2_with fail
     clear z1 z2 z3 z4 z5 z6 z7 z8 z9 z10 z11 z12 z13 z14 z15 z16 z17 z18; have he0 := HEB.out; try simp only [decide_eq_true_eq, decide_eq_false_iff_not] at he0
     go_ret
     exact ⟨ret_b (by unfold sfOk; have := c1h.out; have := c2h.out; have := c3h.out; exact (decide_eq_false (by omega)).symm), H2.out.bl⟩
    by_cases c4 : (0 : Int) < xn
    ·
     obtain ⟨z1, z2, z3, z4, z5, z6, z7, z8, z9, z10, z11, z12, z13, z14, z15, z16, z17, z18⟩ := cs18 H2.out 0 rfl; go_wp2_with fail
     clear z1 z2 z3 z4 z5 z6 z7 z8 z9 z10 z11 z12 z13 z14 z15 z16 z17 z18; have he0 := HEB.out; try simp only [decide_eq_true_eq, decide_eq_false_iff_not] at he0
     go_ret
     exact ⟨ret_b (by unfold sfOk; have := c1h.out; have := c2h.out; have := c3h.out; exact (decide_eq_false (by omega)).symm), H2.out.bl⟩
    by_cases c4 : (0 : Int) < yn
    ·
     obtain ⟨z1, z2, z3, z4, z5, z6, z7, z8, z9, z10, z11, z12, z13, z14, z15, z16, z17, z18⟩ := cs18 H2.out 0 rfl; go_wp2_with fail
     clear z1 z2 z3 z4 z5 z6 z7 z8 z9 z10 z11 z12 z13 z14 z15 z16 z17 z18; have he0 := HEB.out; try simp only [decide_eq_true_eq, decide_eq_false_iff_not] at he0
     go_ret
     exact ⟨ret_b (by unfold sfOk; have := c1h.out; have := c2h.out; have := c3h.out; exact (decide_eq_false (by omega)).symm), H2.out.bl⟩
    obtain ⟨z1, z2, z3, z4, z5, z6, z7, z8, z9, z10, z11, z12, z13, z14, z15, z16, z17, z18⟩ := cs18 H2.out 0 rfl; go_wp2_with fail
    clear z1 z2 z3 z4 z5 z6 z7 z8 z9 z10 z11 z12 z13 z14 z15 z16 z17 z18; refine (redged_any _ _).mono ?_; rintro e w1 ⟨rfl, hsw⟩; have hsw2 : k1 = w1 := by first | exact hsw | exact hsw.symm
    clear hsw; subst hsw2; rw [show edOk 2 = true from by decide]; by_cases c4 : (bins : Int) = 0
    ·
     obtain ⟨c4c, c4d⟩ : (bins : Int) ≤ 0 ∧ (0 : Int) ≤ bins := by omega
     have c4a : ((bins : Int) == (0)) = true := by simpa using c4
     have c4b : ((bins : Int) != (0)) = false := by simpa using c4
     have c4h := hid c4; clear c4; by_cases c5 : (0 : Int) < on
     ·
      obtain ⟨z1, z2, z3, z4, z5, z6, z7, z8, z9, z10, z11, z12, z13, z14, z15, z16, z17, z18⟩ := cs18 H2.out 0 rfl; go_wp2_with fail
      clear z1 z2 z3 z4 z5 z6 z7 z8 z9 z10 z11 z12 z13 z14 z15 z16 z17 z18; have he0 := HEB.out; try simp only [decide_eq_true_eq, decide_eq_false_iff_not] at he0
      go_ret
      exact ⟨ret_b (by unfold sfOk; have := c1h.out; have := c2h.out; have := c3h.out; have := c4h.out; exact (decide_eq_false (by omega)).symm), H2.out.bl⟩
     obtain ⟨z1, z2, z3, z4, z5, z6, z7, z8, z9, z10, z11, z12, z13, z14, z15, z16, z17, z18⟩ := cs18 H2.out 0 rfl; go_wp2_with fail
     clear z1 z2 z3 z4 z5 z6 z7 z8 z9 z10 z11 z12 z13 z14 z15 z16 z17 z18; have he0 := HEB.out; try simp only [decide_eq_true_eq, decide_eq_false_iff_not] at he0
     go_ret
     exact ⟨ret_b (by unfold sfOk; have := c1h.out; have := c2h.out; have := c3h.out; have := c4h.out; exact (decide_eq_true (by omega)).symm), H2.out.bl⟩
    have c4a : ((bins : Int) == (0)) = false := by simpa using c4
    have c4b : ((bins : Int) != (0)) = true := by simpa using c4
    have c4h := hid c4; clear c4; obtain ⟨z1, z2, z3, z4, z5, z6, z7, z8, z9, z10, z11, z12, z13, z14, z15, z16, z17, z18⟩ := cs18 H2.out 0 rfl; go_wp2_with fail
    clear z1 z2 z3 z4 z5 z6 z7 z8 z9 z10 z11 z12 z13 z14 z15 z16 z17 z18; have he0 := HEB.out; try simp only [decide_eq_true_eq, decide_eq_false_iff_not] at he0
    go_ret
    exact ⟨ret_b (by unfold sfOk; have := c1h.out; have := c2h.out; have := c3h.out; have := c4h.out; exact (decide_eq_false (by omega)).symm), H2.out.bl⟩
   have c3a : ((kh : Int) == (0)) = false := by simpa using c3
   have c3b : ((kh : Int) != (0)) = true := by simpa using c3
   have c3h := hid c3; clear c3; obtain ⟨z1, z2, z3, z4, z5, z6, z7, z8, z9, z10, z11, z12, z13, z14, z15, z16, z17, z18⟩ := cs18 H2.out 0 rfl; go_wp2_with fail
   clear z1 z2 z3 z4 z5 z6 z7 z8 z9 z10 z11 z12 z13 z14 z15 z16 z17 z18; have he0 := HEB.out; try simp only [decide_eq_true_eq, decide_eq_false_iff_not] at he0
   go_ret
   exact ⟨ret_b (by unfold sfOk; have := c1h.out; have := c2h.out; have := c3h.out; exact (decide_eq_false (by omega)).symm), H2.out.bl⟩
  have c2a : ((kw : Int) == (0)) = false := by simpa using c2
  have c2b : ((kw : Int) != (0)) = true := by simpa using c2
  have c2h := hid c2; clear c2; obtain ⟨z1, z2, z3, z4, z5, z6, z7, z8, z9, z10, z11, z12, z13, z14, z15, z16, z17, z18⟩ := cs18 H2.out 0 rfl; go_wp2_with fail
  clear z1 z2 z3 z4 z5 z6 z7 z8 z9 z10 z11 z12 z13 z14 z15 z16 z17 z18; have he0 := HEB.out; try simp only [decide_eq_true_eq, decide_eq_false_iff_not] at he0
  go_ret
  exact ⟨ret_b (by unfold sfOk; have := c1h.out; have := c2h.out; exact (decide_eq_false (by omega)).symm), H2.out.bl⟩
 have c1a : ((sb : Int) == ((-1))) = false := by simpa using c1
 have c1b : ((sb : Int) != ((-1))) = true := by simpa using c1
 have c1h := hid c1; clear c1; obtain ⟨z1, z2, z3, z4, z5, z6, z7, z8, z9, z10, z11, z12, z13, z14, z15, z16, z17, z18⟩ := cs18 H1.out 0 rfl; go_wp2_with fail
 clear z1 z2 z3 z4 z5 z6 z7 z8 z9 z10 z11 z12 z13 z14 z15 z16 z17 z18; have he0 := HEB.out; try simp only [decide_eq_true_eq, decide_eq_false_iff_not] at he0
 go_ret
 exact ⟨ret_b (by unfold sfOk; have := c1h.out; exact (decide_eq_false (by omega)).symm), H1.out.bl⟩

set_option maxRecDepth 100000 in
set_option maxHeartbeats 6400000 in
theorem rsfields_3 (sa sb : Int) (bar : Bool) (ep ef kw kh : Int) (wa : Option Addr) (wn wc : Nat) (ra : Option Addr) (rn rc : Nat) (ca : Option Addr) (cn cc : Nat) (sh sh2 : Int) (xa : Option Addr) (xn xc : Nat) (ya : Option Addr) (yn yc : Nat) (bins : Int) (oa : Option Addr) (on oc : Nat) (mx : Int) (W : World) : Calls Try.prog 12 #[.agg #[.int .i64 3, .int .i64 sa, .int .i64 sb, .bool bar, .int .i64 ep, .int .i64 ef, .int .i64 kw, .int .i64 kh, .slice wa wn wc, .slice ra rn rc, .slice ca cn cc, .int .i64 sh, .int .i64 sh2, .slice xa xn xc, .slice ya yn yc, .int .i64 bins, .slice oa on oc, .int .i64 mx]] W fun e w' => e = .returned (.bool (sfOk 3 sb ep ef kw kh wn rn cn sh sh2 xn yn bins on mx)) ∧ Below W.heap.size W w' := by
 obtain ⟨B, hB⟩ : ∃ B, W.heap.size = B := ⟨_, rfl⟩; have HI0 := hid (St.init hB); obtain ⟨eb, heb⟩ : ∃ x, decide (ep = 0 ∧ ef = 0) = x := ⟨_, rfl⟩; have HEB := hid heb
 go_enter Try.func12, Try.ntmps12
 go_upto_region 1 with fail
 have H1 := hid (HI0.out.alloc #[.int .i64 3, .int .i64 sa, .int .i64 sb, .bool bar, .int .i64 ep, .int .i64 ef, .int .i64 kw, .int .i64 kh, .slice wa wn wc, .slice ra rn rc, .slice ca cn cc, .int .i64 sh, .int .i64 sh2, .slice xa xn xc, .slice ya yn yc, .int .i64 bins, .slice oa on oc, .int .i64 mx] 33 hB); first | refine gK H1 ?_ | refine gL H1 ?_ | refine gC H1 ?_
 clear H1; intro w1 H1; by_cases c1 : (sb : Int) = (-1)
 ·
  obtain ⟨c1c, c1d⟩ : (sb : Int) ≤ (-1) ∧ ((-1) : Int) ≤ sb := by omega
  have c1a : ((sb : Int) == ((-1))) = true := by simpa using c1
  have c1b : ((sb : Int) != ((-1))) = false := by simpa using c1
  have c1h := hid c1; clear c1; obtain ⟨z1, z2, z3, z4, z5, z6, z7, z8, z9, z10, z11, z12, z13, z14, z15, z16, z17, z18⟩ := cs18 H1.out 0 rfl; go_upto_region 3 with fail
  clear z1 z2 z3 z4 z5 z6 z7 z8 z9 z10 z11 z12 z13 z14 z15 z16 z17 z18; have H2 := hid H1.out.drew; refine wp_region_held_drew (S := (fun w' => w'.cell? ⟨B, 0, none⟩ = some (.int .i64 3) ∧ w'.cell? ⟨B, 1, none⟩ = some (.int .i64 sa) ∧ w'.cell? ⟨B, 2, none⟩ = some (.int .i64 sb) ∧ w'.cell? ⟨B, 3, none⟩ = some (.bool bar) ∧ w'.cell? ⟨B, 4, none⟩ = some (.int .i64 ep) ∧ w'.cell? ⟨B, 5, none⟩ = some (.int .i64 ef) ∧ w'.cell? ⟨B, 6, none⟩ = some (.int .i64 kw) ∧ w'.cell? ⟨B, 7, none⟩ = some (.int .i64 kh) ∧ w'.cell? ⟨B, 8, none⟩ = some (.slice wa wn wc) ∧ w'.cell? ⟨B, 9, none⟩ = some (.slice ra rn rc) ∧ w'.cell? ⟨B, 10, none⟩ = some (.slice ca cn cc) ∧ w'.cell? ⟨B, 11, none⟩ = some (.int .i64 sh) ∧ w'.cell? ⟨B, 12, none⟩ = some (.int .i64 sh2) ∧ w'.cell? ⟨B, 13, none⟩ = some (.slice xa xn xc) ∧ w'.cell? ⟨B, 14, none⟩ = some (.slice ya yn yc) ∧ w'.cell? ⟨B, 15, none⟩ = some (.int .i64 bins) ∧ w'.cell? ⟨B, 16, none⟩ = some (.slice oa on oc) ∧ w'.cell? ⟨B, 17, none⟩ = some (.int .i64 mx))) (by kernel_rfl) ⟨H2.out.cell 0 rfl 0 rfl, H2.out.cell 0 rfl 1 rfl, H2.out.cell 0 rfl 2 rfl, H2.out.cell 0 rfl 3 rfl, H2.out.cell 0 rfl 4 rfl, H2.out.cell 0 rfl 5 rfl, H2.out.cell 0 rfl 6 rfl, H2.out.cell 0 rfl 7 rfl, H2.out.cell 0 rfl 8 rfl, H2.out.cell 0 rfl 9 rfl, H2.out.cell 0 rfl 10 rfl, H2.out.cell 0 rfl 11 rfl, H2.out.cell 0 rfl 12 rfl, H2.out.cell 0 rfl 13 rfl, H2.out.cell 0 rfl 14 rfl, H2.out.cell 0 rfl 15 rfl, H2.out.cell 0 rfl 16 rfl, H2.out.cell 0 rfl 17 rfl⟩ (fun hHeld => ?_); generalize w1.drew = k1 at *; refine tk 0 ?_; refine tk 1 ?_; refine tk 2 ?_; refine tk 3 ?_; refine tk 4 ?_; refine tk 5 ?_; refine tk 6 ?_; refine tk 7 ?_; refine tk 8 ?_; refine tk 9 ?_; refine tk 10 ?_; refine tk 11 ?_; refine wpAnyH_done (by kernel_rfl) ?_ _; try clear hHeld
  obtain ⟨z1, z2, z3, z4, z5, z6, z7, z8, z9, z10, z11, z12, z13, z14, z15, z16, z17, z18⟩ := cs18 H2.out 0 rfl; go_wp2_with fail
  clear z1 z2 z3 z4 z5 z6 z7 z8 z9 z10 z11 z12 z13 z14 z15 z16 z17 z18; refine (redged_any _ _).mono ?_; rintro e w1 ⟨rfl, hsw⟩; have hsw2 : k1 = w1 := by first | exact hsw | exact hsw.symm
  clear hsw; subst hsw2; rw [show edOk 3 = true from by decide]; by_cases c2 : (kw : Int) = 0
  ·
   obtain ⟨c2c, c2d⟩ : (kw : Int) ≤ 0 ∧ (0 : Int) ≤ kw := by omega
   have c2a : ((kw : Int) == (0)) = true := by simpa using c2
   have c2b : ((kw : Int) != (0)) = false := by simpa using c2
   have c2h := hid c2; clear c2; by_cases c3 : (kh : Int) = 0
   ·
    obtain ⟨c3c, c3d⟩ : (kh : Int) ≤ 0 ∧ (0 : Int) ≤ kh := by omega
    have c3a : ((kh : Int) == (0)) = true := by simpa using c3
    have c3b : ((kh : Int) != (0)) = false := by simpa using c3
    have c3h := hid c3; clear c3; by_cases c4 : (0 : Int) < wn
    ·
     obtain ⟨z1, z2, z3, z4, z5, z6, z7, z8, z9, z10, z11, z12, z13, z14, z15, z16, z17, z18⟩ := cs18 H2.out 0 rfl; go_wp2_with fail
     clear z1 z2 z3 z4 z5 z6 z7 z8 z9 z10 z11 z12 z13 z14 z15 z16 z17 z18; have he0 := HEB.out; try simp only [decide_eq_true_eq, decide_eq_false_iff_not] at he0
     go_ret
     exact ⟨ret_b (by unfold sfOk; have := c1h.out; have := c2h.out; have := c3h.out; exact (decide_eq_false (by omega)).symm), H2.out.bl⟩
    by_cases c4 : (0 : Int) < rn
    ·
     obtain ⟨z1, z2, z3, z4, z5, z6, z7, z8, z9, z10, z11, z12, z13, z14, z15, z16, z17, z18⟩ := cs18 H2.out 0 rfl; go_wp2_with fail
     clear z1 z2 z3 z4 z5 z6 z7 z8 z9 z10 z11 z12 z13 z14 z15 z16 z17 z18; have he0 := HEB.out; try simp only [decide_eq_true_eq, decide_eq_false_iff_not] at he0
     go_ret
     exact ⟨ret_b (by unfold sfOk; have := c1h.out; have := c2h.out; have := c3h.out; exact (decide_eq_false (by omega)).symm), H2.out.bl⟩
    by_cases c4 : (0 : Int) < cn
    ·
     obtain ⟨z1, z2, z3, z4, z5, z6, z7, z8, z9, z10, z11, z12, z13, z14, z15, z16, z17, z18⟩ := cs18 H2.out 0 rfl; go_wp2_with fail
     clear z1 z2 z3 z4 z5 z6 z7 z8 z9 z10 z11 z12 z13 z14 z15 z16 z17 z18; have he0 := HEB.out; try simp only [decide_eq_true_eq, decide_eq_false_iff_not] at he0
     go_ret
     exact ⟨ret_b (by unfold sfOk; have := c1h.out; have := c2h.out; have := c3h.out; exact (decide_eq_false (by omega)).symm), H2.out.bl⟩
    obtain ⟨z1, z2, z3, z4, z5, z6, z7, z8, z9, z10, z11, z12, z13, z14, z15, z16, z17, z18⟩ := cs18 H2.out 0 rfl; go_wp2_with fail
    clear z1 z2 z3 z4 z5 z6 z7 z8 z9 z10 z11 z12 z13 z14 z15 z16 z17 z18; refine (redged_any _ _).mono ?_; rintro e w1 ⟨rfl, hsw⟩; have hsw2 : k1 = w1 := by first | exact hsw | exact hsw.symm
    clear hsw; subst hsw2; rw [show edOk 3 = true from by decide]; by_cases c4 : (bins : Int) = 0
    ·
     obtain ⟨c4c, c4d⟩ : (bins : Int) ≤ 0 ∧ (0 : Int) ≤ bins := by omega
     have c4a : ((bins : Int) == (0)) = true := by simpa using c4
     have c4b : ((bins : Int) != (0)) = false := by simpa using c4
     have c4h := hid c4; clear c4; by_cases c5 : (0 : Int) < on
     ·
      obtain ⟨z1, z2, z3, z4, z5, z6, z7, z8, z9, z10, z11, z12, z13, z14, z15, z16, z17, z18⟩ := cs18 H2.out 0 rfl; go_wp2_with fail
      clear z1 z2 z3 z4 z5 z6 z7 z8 z9 z10 z11 z12 z13 z14 z15 z16 z17 z18; have he0 := HEB.out; try simp only [decide_eq_true_eq, decide_eq_false_iff_not] at he0
      go_ret
      exact ⟨ret_b (by unfold sfOk; have := c1h.out; have := c2h.out; have := c3h.out; have := c4h.out; exact (decide_eq_false (by omega)).symm), H2.out.bl⟩
     obtain ⟨z1, z2, z3, z4, z5, z6, z7, z8, z9, z10, z11, z12, z13, z14, z15, z16, z17, z18⟩ := cs18 H2.out 0 rfl; go_wp2_with fail
     clear z1 z2 z3 z4 z5 z6 z7 z8 z9 z10 z11 z12 z13 z14 z15 z16 z17 z18; have he0 := HEB.out; try simp only [decide_eq_true_eq, decide_eq_false_iff_not] at he0
     go_ret
     exact ⟨ret_b (by unfold sfOk; have := c1h.out; have := c2h.out; have := c3h.out; have := c4h.out; exact (decide_eq_true (by omega)).symm), H2.out.bl⟩
    have c4a : ((bins : Int) == (0)) = false := by simpa using c4
    have c4b : ((bins : Int) != (0)) = true := by simpa using c4
    have c4h := hid c4; clear c4; obtain ⟨z1, z2, z3, z4, z5, z6, z7, z8, z9, z10, z11, z12, z13, z14, z15, z16, z17, z18⟩ := cs18 H2.out 0 rfl; go_wp2_with fail
    clear z1 z2 z3 z4 z5 z6 z7 z8 z9 z10 z11 z12 z13 z14 z15 z16 z17 z18; have he0 := HEB.out; try simp only [decide_eq_true_eq, decide_eq_false_iff_not] at he0
    go_ret
    exact ⟨ret_b (by unfold sfOk; have := c1h.out; have := c2h.out; have := c3h.out; have := c4h.out; exact (decide_eq_false (by omega)).symm), H2.out.bl⟩
   have c3a : ((kh : Int) == (0)) = false := by simpa using c3
   have c3b : ((kh : Int) != (0)) = true := by simpa using c3
   have c3h := hid c3; clear c3; obtain ⟨z1, z2, z3, z4, z5, z6, z7, z8, z9, z10, z11, z12, z13, z14, z15, z16, z17, z18⟩ := cs18 H2.out 0 rfl; go_wp2_with fail
   clear z1 z2 z3 z4 z5 z6 z7 z8 z9 z10 z11 z12 z13 z14 z15 z16 z17 z18; have he0 := HEB.out; try simp only [decide_eq_true_eq, decide_eq_false_iff_not] at he0
   go_ret
   exact ⟨ret_b (by unfold sfOk; have := c1h.out; have := c2h.out; have := c3h.out; exact (decide_eq_false (by omega)).symm), H2.out.bl⟩
  have c2a : ((kw : Int) == (0)) = false := by simpa using c2
  have c2b : ((kw : Int) != (0)) = true := by simpa using c2
  have c2h := hid c2; clear c2; obtain ⟨z1, z2, z3, z4, z5, z6, z7, z8, z9, z10, z11, z12, z13, z14, z15, z16, z17, z18⟩ := cs18 H2.out 0 rfl; go_wp2_with fail
  clear z1 z2 z3 z4 z5 z6 z7 z8 z9 z10 z11 z12 z13 z14 z15 z16 z17 z18; have he0 := HEB.out; try simp only [decide_eq_true_eq, decide_eq_false_iff_not] at he0
  go_ret
  exact ⟨ret_b (by unfold sfOk; have := c1h.out; have := c2h.out; exact (decide_eq_false (by omega)).symm), H2.out.bl⟩
 have c1a : ((sb : Int) == ((-1))) = false := by simpa using c1
 have c1b : ((sb : Int) != ((-1))) = true := by simpa using c1
 have c1h := hid c1; clear c1; obtain ⟨z1, z2, z3, z4, z5, z6, z7, z8, z9, z10, z11, z12, z13, z14, z15, z16, z17, z18⟩ := cs18 H1.out 0 rfl; go_wp2_with fail
 clear z1 z2 z3 z4 z5 z6 z7 z8 z9 z10 z11 z12 z13 z14 z15 z16 z17 z18; have he0 := HEB.out; try simp only [decide_eq_true_eq, decide_eq_false_iff_not] at he0
 go_ret
 exact ⟨ret_b (by unfold sfOk; have := c1h.out; exact (decide_eq_false (by omega)).symm), H1.out.bl⟩

set_option maxRecDepth 100000 in
set_option maxHeartbeats 6400000 in
theorem rsfields_4 (sa sb : Int) (bar : Bool) (ep ef kw kh : Int) (wa : Option Addr) (wn wc : Nat) (ra : Option Addr) (rn rc : Nat) (ca : Option Addr) (cn cc : Nat) (sh sh2 : Int) (xa : Option Addr) (xn xc : Nat) (ya : Option Addr) (yn yc : Nat) (bins : Int) (oa : Option Addr) (on oc : Nat) (mx : Int) (W : World) : Calls Try.prog 12 #[.agg #[.int .i64 4, .int .i64 sa, .int .i64 sb, .bool bar, .int .i64 ep, .int .i64 ef, .int .i64 kw, .int .i64 kh, .slice wa wn wc, .slice ra rn rc, .slice ca cn cc, .int .i64 sh, .int .i64 sh2, .slice xa xn xc, .slice ya yn yc, .int .i64 bins, .slice oa on oc, .int .i64 mx]] W fun e w' => e = .returned (.bool (sfOk 4 sb ep ef kw kh wn rn cn sh sh2 xn yn bins on mx)) ∧ Below W.heap.size W w' := by
 obtain ⟨B, hB⟩ : ∃ B, W.heap.size = B := ⟨_, rfl⟩; have HI0 := hid (St.init hB); obtain ⟨eb, heb⟩ : ∃ x, decide (ep = 0 ∧ ef = 0) = x := ⟨_, rfl⟩; have HEB := hid heb
 go_enter Try.func12, Try.ntmps12
 go_upto_region 1 with fail
 have H1 := hid (HI0.out.alloc #[.int .i64 4, .int .i64 sa, .int .i64 sb, .bool bar, .int .i64 ep, .int .i64 ef, .int .i64 kw, .int .i64 kh, .slice wa wn wc, .slice ra rn rc, .slice ca cn cc, .int .i64 sh, .int .i64 sh2, .slice xa xn xc, .slice ya yn yc, .int .i64 bins, .slice oa on oc, .int .i64 mx] 33 hB); first | refine gK H1 ?_ | refine gL H1 ?_ | refine gC H1 ?_
 clear H1; intro w1 H1; by_cases c1 : (sb : Int) = (-1)
 ·
  obtain ⟨c1c, c1d⟩ : (sb : Int) ≤ (-1) ∧ ((-1) : Int) ≤ sb := by omega
  have c1a : ((sb : Int) == ((-1))) = true := by simpa using c1
  have c1b : ((sb : Int) != ((-1))) = false := by simpa using c1
  have c1h := hid c1; clear c1; obtain ⟨z1, z2, z3, z4, z5, z6, z7, z8, z9, z10, z11, z12, z13, z14, z15, z16, z17, z18⟩ := cs18 H1.out 0 rfl; go_upto_region 3 with fail
  clear z1 z2 z3 z4 z5 z6 z7 z8 z9 z10 z11 z12 z13 z14 z15 z16 z17 z18; have H2 := hid H1.out.drew; refine wp_region_held_drew (S := (fun w' => w'.cell? ⟨B, 0, none⟩ = some (.int .i64 4) ∧ w'.cell? ⟨B, 1, none⟩ = some (.int .i64 sa) ∧ w'.cell? ⟨B, 2, none⟩ = some (.int .i64 sb) ∧ w'.cell? ⟨B, 3, none⟩ = some (.bool bar) ∧ w'.cell? ⟨B, 4, none⟩ = some (.int .i64 ep) ∧ w'.cell? ⟨B, 5, none⟩ = some (.int .i64 ef) ∧ w'.cell? ⟨B, 6, none⟩ = some (.int .i64 kw) ∧ w'.cell? ⟨B, 7, none⟩ = some (.int .i64 kh) ∧ w'.cell? ⟨B, 8, none⟩ = some (.slice wa wn wc) ∧ w'.cell? ⟨B, 9, none⟩ = some (.slice ra rn rc) ∧ w'.cell? ⟨B, 10, none⟩ = some (.slice ca cn cc) ∧ w'.cell? ⟨B, 11, none⟩ = some (.int .i64 sh) ∧ w'.cell? ⟨B, 12, none⟩ = some (.int .i64 sh2) ∧ w'.cell? ⟨B, 13, none⟩ = some (.slice xa xn xc) ∧ w'.cell? ⟨B, 14, none⟩ = some (.slice ya yn yc) ∧ w'.cell? ⟨B, 15, none⟩ = some (.int .i64 bins) ∧ w'.cell? ⟨B, 16, none⟩ = some (.slice oa on oc) ∧ w'.cell? ⟨B, 17, none⟩ = some (.int .i64 mx))) (by kernel_rfl) ⟨H2.out.cell 0 rfl 0 rfl, H2.out.cell 0 rfl 1 rfl, H2.out.cell 0 rfl 2 rfl, H2.out.cell 0 rfl 3 rfl, H2.out.cell 0 rfl 4 rfl, H2.out.cell 0 rfl 5 rfl, H2.out.cell 0 rfl 6 rfl, H2.out.cell 0 rfl 7 rfl, H2.out.cell 0 rfl 8 rfl, H2.out.cell 0 rfl 9 rfl, H2.out.cell 0 rfl 10 rfl, H2.out.cell 0 rfl 11 rfl, H2.out.cell 0 rfl 12 rfl, H2.out.cell 0 rfl 13 rfl, H2.out.cell 0 rfl 14 rfl, H2.out.cell 0 rfl 15 rfl, H2.out.cell 0 rfl 16 rfl, H2.out.cell 0 rfl 17 rfl⟩ (fun hHeld => ?_); generalize w1.drew = k1 at *; refine tk 0 ?_; refine tk 1 ?_; refine tk 2 ?_; refine tk 3 ?_; refine tk 4 ?_; refine tk 5 ?_; refine tk 6 ?_; refine tk 7 ?_; refine tk 8 ?_; refine tk 9 ?_; refine tk 10 ?_; refine tk 11 ?_; refine wpAnyH_done (by kernel_rfl) ?_ _; try clear hHeld
  obtain ⟨z1, z2, z3, z4, z5, z6, z7, z8, z9, z10, z11, z12, z13, z14, z15, z16, z17, z18⟩ := cs18 H2.out 0 rfl; go_wp2_with fail
  clear z1 z2 z3 z4 z5 z6 z7 z8 z9 z10 z11 z12 z13 z14 z15 z16 z17 z18; refine (redged_any _ _).mono ?_; rintro e w1 ⟨rfl, hsw⟩; have hsw2 : k1 = w1 := by first | exact hsw | exact hsw.symm
  clear hsw; subst hsw2; rw [show edOk 4 = false from by decide]; cases eb; rotate_left
  ·
   by_cases c2 : (kw : Int) = 0
   ·
    obtain ⟨c2c, c2d⟩ : (kw : Int) ≤ 0 ∧ (0 : Int) ≤ kw := by omega
    have c2a : ((kw : Int) == (0)) = true := by simpa using c2
    have c2b : ((kw : Int) != (0)) = false := by simpa using c2
    have c2h := hid c2; clear c2; by_cases c3 : (kh : Int) = 0
    ·
     obtain ⟨c3c, c3d⟩ : (kh : Int) ≤ 0 ∧ (0 : Int) ≤ kh := by omega
     have c3a : ((kh : Int) == (0)) = true := by simpa using c3
     have c3b : ((kh : Int) != (0)) = false := by simpa using c3
     have c3h := hid c3; clear c3; by_cases c4 : (0 : Int) < wn
     ·
      obtain ⟨z1, z2, z3, z4, z5, z6, z7, z8, z9, z10, z11, z12, z13, z14, z15, z16, z17, z18⟩ := cs18 H2.out 0 rfl; go_wp2_with fail
      clear z1 z2 z3 z4 z5 z6 z7 z8 z9 z10 z11 z12 z13 z14 z15 z16 z17 z18; have he0 := HEB.out; try simp only [decide_eq_true_eq, decide_eq_false_iff_not] at he0
      go_ret
      exact ⟨ret_b (by unfold sfOk; have := c1h.out; have := c2h.out; have := c3h.out; exact (decide_eq_false (by omega)).symm), H2.out.bl⟩
     by_cases c4 : (0 : Int) < rn
     ·
      obtain ⟨z1, z2, z3, z4, z5, z6, z7, z8, z9, z10, z11, z12, z13, z14, z15, z16, z17, z18⟩ := cs18 H2.out 0 rfl; go_wp2_with fail
      clear z1 z2 z3 z4 z5 z6 z7 z8 z9 z10 z11 z12 z13 z14 z15 z16 z17 z18; have he0 := HEB.out; try simp only [decide_eq_true_eq, decide_eq_false_iff_not] at he0
      go_ret
      exact ⟨ret_b (by unfold sfOk; have := c1h.out; have := c2h.out; have := c3h.out; exact (decide_eq_false (by omega)).symm), H2.out.bl⟩
     by_cases c4 : (0 : Int) < cn
     ·
      obtain ⟨z1, z2, z3, z4, z5, z6, z7, z8, z9, z10, z11, z12, z13, z14, z15, z16, z17, z18⟩ := cs18 H2.out 0 rfl; go_wp2_with fail
      clear z1 z2 z3 z4 z5 z6 z7 z8 z9 z10 z11 z12 z13 z14 z15 z16 z17 z18; have he0 := HEB.out; try simp only [decide_eq_true_eq, decide_eq_false_iff_not] at he0
      go_ret
      exact ⟨ret_b (by unfold sfOk; have := c1h.out; have := c2h.out; have := c3h.out; exact (decide_eq_false (by omega)).symm), H2.out.bl⟩
     by_cases c4 : (0 : Int) < xn
     ·
      obtain ⟨z1, z2, z3, z4, z5, z6, z7, z8, z9, z10, z11, z12, z13, z14, z15, z16, z17, z18⟩ := cs18 H2.out 0 rfl; go_wp2_with fail
      clear z1 z2 z3 z4 z5 z6 z7 z8 z9 z10 z11 z12 z13 z14 z15 z16 z17 z18; have he0 := HEB.out; try simp only [decide_eq_true_eq, decide_eq_false_iff_not] at he0
      go_ret
      exact ⟨ret_b (by unfold sfOk; have := c1h.out; have := c2h.out; have := c3h.out; exact (decide_eq_false (by omega)).symm), H2.out.bl⟩
     by_cases c4 : (0 : Int) < yn
     ·
      obtain ⟨z1, z2, z3, z4, z5, z6, z7, z8, z9, z10, z11, z12, z13, z14, z15, z16, z17, z18⟩ := cs18 H2.out 0 rfl; go_wp2_with fail
      clear z1 z2 z3 z4 z5 z6 z7 z8 z9 z10 z11 z12 z13 z14 z15 z16 z17 z18; have he0 := HEB.out; try simp only [decide_eq_true_eq, decide_eq_false_iff_not] at he0
      go_ret
      exact ⟨ret_b (by unfold sfOk; have := c1h.out; have := c2h.out; have := c3h.out; exact (decide_eq_false (by omega)).symm), H2.out.bl⟩
     obtain ⟨z1, z2, z3, z4, z5, z6, z7, z8, z9, z10, z11, z12, z13, z14, z15, z16, z17, z18⟩ := cs18 H2.out 0 rfl; go_wp2_with fail
     clear z1 z2 z3 z4 z5 z6 z7 z8 z9 z10 z11 z12 z13 z14 z15 z16 z17 z18; refine (redged_any _ _).mono ?_; rintro e w1 ⟨rfl, hsw⟩; have hsw2 : k1 = w1 := by first | exact hsw | exact hsw.symm
     clear hsw; subst hsw2; rw [show edOk 4 = false from by decide]; by_cases c4 : (sh : Int) = 0
     ·
      obtain ⟨c4c, c4d⟩ : (sh : Int) ≤ 0 ∧ (0 : Int) ≤ sh := by omega
      have c4a : ((sh : Int) == (0)) = true := by simpa using c4
      have c4b : ((sh : Int) != (0)) = false := by simpa using c4
      have c4h := hid c4; clear c4; by_cases c5 : (sh2 : Int) = 0
      ·
       obtain ⟨c5c, c5d⟩ : (sh2 : Int) ≤ 0 ∧ (0 : Int) ≤ sh2 := by omega
       have c5a : ((sh2 : Int) == (0)) = true := by simpa using c5
       have c5b : ((sh2 : Int) != (0)) = false := by simpa using c5
       have c5h := hid c5; clear c5; by_cases c6 : (0 : Int) < on
       ·
        obtain ⟨z1, z2, z3, z4, z5, z6, z7, z8, z9, z10, z11, z12, z13, z14, z15, z16, z17, z18⟩ := cs18 H2.out 0 rfl; go_wp2_with fail
        clear z1 z2 z3 z4 z5 z6 z7 z8 z9 z10 z11 z12 z13 z14 z15 z16 z17 z18; have he0 := HEB.out; try simp only [decide_eq_true_eq, decide_eq_false_iff_not] at he0
        go_ret
        exact ⟨ret_b (by unfold sfOk; have := c1h.out; have := c2h.out; have := c3h.out; have := c4h.out; have := c5h.out; exact (decide_eq_false (by omega)).symm), H2.out.bl⟩
       by_cases c6 : (mx : Int) = 0
       ·
        obtain ⟨c6c, c6d⟩ : (mx : Int) ≤ 0 ∧ (0 : Int) ≤ mx := by omega
        have c6a : ((mx : Int) == (0)) = true := by simpa using c6
        have c6b : ((mx : Int) != (0)) = false := by simpa using c6
        have c6h := hid c6; clear c6; obtain ⟨z1, z2, z3, z4, z5, z6, z7, z8, z9, z10, z11, z12, z13, z14, z15, z16, z17, z18⟩ := cs18 H2.out 0 rfl; go_wp2_with fail
        clear z1 z2 z3 z4 z5 z6 z7 z8 z9 z10 z11 z12 z13 z14 z15 z16 z17 z18; have he0 := HEB.out; try simp only [decide_eq_true_eq, decide_eq_false_iff_not] at he0
        go_ret
        exact ⟨ret_b (by unfold sfOk; have := c1h.out; have := c2h.out; have := c3h.out; have := c4h.out; have := c5h.out; have := c6h.out; exact (decide_eq_true (by omega)).symm), H2.out.bl⟩
       have c6a : ((mx : Int) == (0)) = false := by simpa using c6
       have c6b : ((mx : Int) != (0)) = true := by simpa using c6
       have c6h := hid c6; clear c6; obtain ⟨z1, z2, z3, z4, z5, z6, z7, z8, z9, z10, z11, z12, z13, z14, z15, z16, z17, z18⟩ := cs18 H2.out 0 rfl; go_wp2_with fail
       clear z1 z2 z3 z4 z5 z6 z7 z8 z9 z10 z11 z12 z13 z14 z15 z16 z17 z18; have he0 := HEB.out; try simp only [decide_eq_true_eq, decide_eq_false_iff_not] at he0
       go_ret
       exact ⟨ret_b (by unfold sfOk; have := c1h.out; have := c2h.out; have := c3h.out; have := c4h.out; have := c5h.out; have := c6h.out; exact (decide_eq_false (by omega)).symm), H2.out.bl⟩
      have c5a : ((sh2 : Int) == (0)) = false := by simpa using c5
      have c5b : ((sh2 : Int) != (0)) = true := by simpa using c5
      have c5h := hid c5; clear c5; obtain ⟨z1, z2, z3, z4, z5, z6, z7, z8, z9, z10, z11, z12, z13, z14, z15, z16, z17, z18⟩ := cs18 H2.out 0 rfl; go_wp2_with fail
      clear z1 z2 z3 z4 z5 z6 z7 z8 z9 z10 z11 z12 z13 z14 z15 z16 z17 z18; have he0 := HEB.out; try simp only [decide_eq_true_eq, decide_eq_false_iff_not] at he0
      go_ret
      exact ⟨ret_b (by unfold sfOk; have := c1h.out; have := c2h.out; have := c3h.out; have := c4h.out; have := c5h.out; exact (decide_eq_false (by omega)).symm), H2.out.bl⟩
     have c4a : ((sh : Int) == (0)) = false := by simpa using c4
     have c4b : ((sh : Int) != (0)) = true := by simpa using c4
     have c4h := hid c4; clear c4; obtain ⟨z1, z2, z3, z4, z5, z6, z7, z8, z9, z10, z11, z12, z13, z14, z15, z16, z17, z18⟩ := cs18 H2.out 0 rfl; go_wp2_with fail
     clear z1 z2 z3 z4 z5 z6 z7 z8 z9 z10 z11 z12 z13 z14 z15 z16 z17 z18; have he0 := HEB.out; try simp only [decide_eq_true_eq, decide_eq_false_iff_not] at he0
     go_ret
     exact ⟨ret_b (by unfold sfOk; have := c1h.out; have := c2h.out; have := c3h.out; have := c4h.out; exact (decide_eq_false (by omega)).symm), H2.out.bl⟩
    have c3a : ((kh : Int) == (0)) = false := by simpa using c3
    have c3b : ((kh : Int) != (0)) = true := by simpa using c3
    have c3h := hid c3; clear c3; obtain ⟨z1, z2, z3, z4, z5, z6, z7, z8, z9, z10, z11, z12, z13, z14, z15, z16, z17, z18⟩ := cs18 H2.out 0 rfl; go_wp2_with fail
    clear z1 z2 z3 z4 z5 z6 z7 z8 z9 z10 z11 z12 z13 z14 z15 z16 z17 z18; have he0 := HEB.out; try simp only [decide_eq_true_eq, decide_eq_false_iff_not] at he0
    go_ret
    exact ⟨ret_b (by unfold sfOk; have := c1h.out; have := c2h.out; have := c3h.out; exact (decide_eq_false (by omega)).symm), H2.out.bl⟩
   have c2a : ((kw : Int) == (0)) = false := by simpa using c2
   have c2b : ((kw : Int) != (0)) = true := by simpa using c2
   have c2h := hid c2; clear c2; obtain ⟨z1, z2, z3, z4, z5, z6, z7, z8, z9, z10, z11, z12, z13, z14, z15, z16, z17, z18⟩ := cs18 H2.out 0 rfl; go_wp2_with fail
   clear z1 z2 z3 z4 z5 z6 z7 z8 z9 z10 z11 z12 z13 z14 z15 z16 z17 z18; have he0 := HEB.out; try simp only [decide_eq_true_eq, decide_eq_false_iff_not] at he0
   go_ret
   exact ⟨ret_b (by unfold sfOk; have := c1h.out; have := c2h.out; exact (decide_eq_false (by omega)).symm), H2.out.bl⟩
  obtain ⟨z1, z2, z3, z4, z5, z6, z7, z8, z9, z10, z11, z12, z13, z14, z15, z16, z17, z18⟩ := cs18 H2.out 0 rfl; go_wp2_with fail
  clear z1 z2 z3 z4 z5 z6 z7 z8 z9 z10 z11 z12 z13 z14 z15 z16 z17 z18; have he0 := HEB.out; try simp only [decide_eq_true_eq, decide_eq_false_iff_not] at he0
  go_ret
  exact ⟨ret_b (by unfold sfOk; have := c1h.out; exact (decide_eq_false (by omega)).symm), H2.out.bl⟩
 have c1a : ((sb : Int) == ((-1))) = false := by simpa using c1
 have c1b : ((sb : Int) != ((-1))) = true := by simpa using c1
 have c1h := hid c1; clear c1; obtain ⟨z1, z2, z3, z4, z5, z6, z7, z8, z9, z10, z11, z12, z13, z14, z15, z16, z17, z18⟩ := cs18 H1.out 0 rfl; go_wp2_with fail
 clear z1 z2 z3 z4 z5 z6 z7 z8 z9 z10 z11 z12 z13 z14 z15 z16 z17 z18; have he0 := HEB.out; try simp only [decide_eq_true_eq, decide_eq_false_iff_not] at he0
 go_ret
 exact ⟨ret_b (by unfold sfOk; have := c1h.out; exact (decide_eq_false (by omega)).symm), H1.out.bl⟩

set_option maxRecDepth 100000 in
set_option maxHeartbeats 6400000 in
theorem rsfields_5 (sa sb : Int) (bar : Bool) (ep ef kw kh : Int) (wa : Option Addr) (wn wc : Nat) (ra : Option Addr) (rn rc : Nat) (ca : Option Addr) (cn cc : Nat) (sh sh2 : Int) (xa : Option Addr) (xn xc : Nat) (ya : Option Addr) (yn yc : Nat) (bins : Int) (oa : Option Addr) (on oc : Nat) (mx : Int) (W : World) : Calls Try.prog 12 #[.agg #[.int .i64 5, .int .i64 sa, .int .i64 sb, .bool bar, .int .i64 ep, .int .i64 ef, .int .i64 kw, .int .i64 kh, .slice wa wn wc, .slice ra rn rc, .slice ca cn cc, .int .i64 sh, .int .i64 sh2, .slice xa xn xc, .slice ya yn yc, .int .i64 bins, .slice oa on oc, .int .i64 mx]] W fun e w' => e = .returned (.bool (sfOk 5 sb ep ef kw kh wn rn cn sh sh2 xn yn bins on mx)) ∧ Below W.heap.size W w' := by
 obtain ⟨B, hB⟩ : ∃ B, W.heap.size = B := ⟨_, rfl⟩; have HI0 := hid (St.init hB); obtain ⟨eb, heb⟩ : ∃ x, decide (ep = 0 ∧ ef = 0) = x := ⟨_, rfl⟩; have HEB := hid heb
 go_enter Try.func12, Try.ntmps12
 go_upto_region 1 with fail
 have H1 := hid (HI0.out.alloc #[.int .i64 5, .int .i64 sa, .int .i64 sb, .bool bar, .int .i64 ep, .int .i64 ef, .int .i64 kw, .int .i64 kh, .slice wa wn wc, .slice ra rn rc, .slice ca cn cc, .int .i64 sh, .int .i64 sh2, .slice xa xn xc, .slice ya yn yc, .int .i64 bins, .slice oa on oc, .int .i64 mx] 33 hB); first | refine gK H1 ?_ | refine gL H1 ?_ | refine gC H1 ?_
 clear H1; intro w1 H1; by_cases c1 : (sb : Int) = (-1)
 ·
  obtain ⟨c1c, c1d⟩ : (sb : Int) ≤ (-1) ∧ ((-1) : Int) ≤ sb := by omega
  have c1a : ((sb : Int) == ((-1))) = true := by simpa using c1
  have c1b : ((sb : Int) != ((-1))) = false := by simpa using c1
  have c1h := hid c1; clear c1; obtain ⟨z1, z2, z3, z4, z5, z6, z7, z8, z9, z10, z11, z12, z13, z14, z15, z16, z17, z18⟩ := cs18 H1.out 0 rfl; go_upto_region 3 with fail
  clear z1 z2 z3 z4 z5 z6 z7 z8 z9 z10 z11 z12 z13 z14 z15 z16 z17 z18; have H2 := hid H1.out.drew; refine wp_region_held_drew (S := (fun w' => w'.cell? ⟨B, 0, none⟩ = some (.int .i64 5) ∧ w'.cell? ⟨B, 1, none⟩ = some (.int .i64 sa) ∧ w'.cell? ⟨B, 2, none⟩ = some (.int .i64 sb) ∧ w'.cell? ⟨B, 3, none⟩ = some (.bool bar) ∧ w'.cell? ⟨B, 4, none⟩ = some (.int .i64 ep) ∧ w'.cell? ⟨B, 5, none⟩ = some (.int .i64 ef) ∧ w'.cell? ⟨B, 6, none⟩ = some (.int .i64 kw) ∧ w'.cell? ⟨B, 7, none⟩ = some (.int .i64 kh) ∧ w'.cell? ⟨B, 8, none⟩ = some (.slice wa wn wc) ∧ w'.cell? ⟨B, 9, none⟩ = some (.slice ra rn rc) ∧ w'.cell? ⟨B, 10, none⟩ = some (.slice ca cn cc) ∧ w'.cell? ⟨B, 11, none⟩ = some (.int .i64 sh) ∧ w'.cell? ⟨B, 12, none⟩ = some (.int .i64 sh2) ∧ w'.cell? ⟨B, 13, none⟩ = some (.slice xa xn xc) ∧ w'.cell? ⟨B, 14, none⟩ = some (.slice ya yn yc) ∧ w'.cell? ⟨B, 15, none⟩ = some (.int .i64 bins) ∧ w'.cell? ⟨B, 16, none⟩ = some (.slice oa on oc) ∧ w'.cell? ⟨B, 17, none⟩ = some (.int .i64 mx))) (by kernel_rfl) ⟨H2.out.cell 0 rfl 0 rfl, H2.out.cell 0 rfl 1 rfl, H2.out.cell 0 rfl 2 rfl, H2.out.cell 0 rfl 3 rfl, H2.out.cell 0 rfl 4 rfl, H2.out.cell 0 rfl 5 rfl, H2.out.cell 0 rfl 6 rfl, H2.out.cell 0 rfl 7 rfl, H2.out.cell 0 rfl 8 rfl, H2.out.cell 0 rfl 9 rfl, H2.out.cell 0 rfl 10 rfl, H2.out.cell 0 rfl 11 rfl, H2.out.cell 0 rfl 12 rfl, H2.out.cell 0 rfl 13 rfl, H2.out.cell 0 rfl 14 rfl, H2.out.cell 0 rfl 15 rfl, H2.out.cell 0 rfl 16 rfl, H2.out.cell 0 rfl 17 rfl⟩ (fun hHeld => ?_); generalize w1.drew = k1 at *; refine tk 0 ?_; refine tk 1 ?_; refine tk 2 ?_; refine tk 3 ?_; refine tk 4 ?_; refine tk 5 ?_; refine tk 6 ?_; refine tk 7 ?_; refine tk 8 ?_; refine tk 9 ?_; refine tk 10 ?_; refine tk 11 ?_; refine wpAnyH_done (by kernel_rfl) ?_ _; try clear hHeld
  obtain ⟨z1, z2, z3, z4, z5, z6, z7, z8, z9, z10, z11, z12, z13, z14, z15, z16, z17, z18⟩ := cs18 H2.out 0 rfl; go_wp2_with fail
  clear z1 z2 z3 z4 z5 z6 z7 z8 z9 z10 z11 z12 z13 z14 z15 z16 z17 z18; refine (redged_any _ _).mono ?_; rintro e w1 ⟨rfl, hsw⟩; have hsw2 : k1 = w1 := by first | exact hsw | exact hsw.symm
  clear hsw; subst hsw2; rw [show edOk 5 = false from by decide]; cases eb; rotate_left
  ·
   by_cases c2 : (kw : Int) = 0
   ·
    obtain ⟨c2c, c2d⟩ : (kw : Int) ≤ 0 ∧ (0 : Int) ≤ kw := by omega
    have c2a : ((kw : Int) == (0)) = true := by simpa using c2
    have c2b : ((kw : Int) != (0)) = false := by simpa using c2
    have c2h := hid c2; clear c2; by_cases c3 : (kh : Int) = 0
    ·
     obtain ⟨c3c, c3d⟩ : (kh : Int) ≤ 0 ∧ (0 : Int) ≤ kh := by omega
     have c3a : ((kh : Int) == (0)) = true := by simpa using c3
     have c3b : ((kh : Int) != (0)) = false := by simpa using c3
     have c3h := hid c3; clear c3; by_cases c4 : (0 : Int) < wn
     ·
      obtain ⟨z1, z2, z3, z4, z5, z6, z7, z8, z9, z10, z11, z12, z13, z14, z15, z16, z17, z18⟩ := cs18 H2.out 0 rfl; go_wp2_with fail
      clear z1 z2 z3 z4 z5 z6 z7 z8 z9 z10 z11 z12 z13 z14 z15 z16 z17 z18; have he0 := HEB.out; try simp only [decide_eq_true_eq, decide_eq_false_iff_not] at he0
      go_ret
      exact ⟨ret_b (by unfold sfOk; have := c1h.out; have := c2h.out; have := c3h.out; exact (decide_eq_false (by omega)).symm), H2.out.bl⟩
     by_cases c4 : (0 : Int) < rn
     ·
      obtain ⟨z1, z2, z3, z4, z5, z6, z7, z8, z9, z10, z11, z12, z13, z14, z15, z16, z17, z18⟩ := cs18 H2.out 0 rfl; go_wp2_with fail
      clear z1 z2 z3 z4 z5 z6 z7 z8 z9 z10 z11 z12 z13 z14 z15 z16 z17 z18; have he0 := HEB.out; try simp only [decide_eq_true_eq, decide_eq_false_iff_not] at he0
      go_ret
      exact ⟨ret_b (by unfold sfOk; have := c1h.out; have := c2h.out; have := c3h.out; exact (decide_eq_false (by omega)).symm), H2.out.bl⟩
     by_cases c4 : (0 : Int) < cn
     ·
      obtain ⟨z1, z2, z3, z4, z5, z6, z7, z8, z9, z10, z11, z12, z13, z14, z15, z16, z17, z18⟩ := cs18 H2.out 0 rfl; go_wp2_with fail
      clear z1 z2 z3 z4 z5 z6 z7 z8 z9 z10 z11 z12 z13 z14 z15 z16 z17 z18; have he0 := HEB.out; try simp only [decide_eq_true_eq, decide_eq_false_iff_not] at he0
      go_ret
      exact ⟨ret_b (by unfold sfOk; have := c1h.out; have := c2h.out; have := c3h.out; exact (decide_eq_false (by omega)).symm), H2.out.bl⟩
     by_cases c4 : (0 : Int) < xn
     ·
      obtain ⟨z1, z2, z3, z4, z5, z6, z7, z8, z9, z10, z11, z12, z13, z14, z15, z16, z17, z18⟩ := cs18 H2.out 0 rfl; go_wp2_with fail
      clear z1 z2 z3 z4 z5 z6 z7 z8 z9 z10 z11 z12 z13 z14 z15 z16 z17 z18; have he0 := HEB.out; try simp only [decide_eq_true_eq, decide_eq_false_iff_not] at he0
      go_ret
      exact ⟨ret_b (by unfold sfOk; have := c1h.out; have := c2h.out; have := c3h.out; exact (decide_eq_false (by omega)).symm), H2.out.bl⟩
     by_cases c4 : (0 : Int) < yn
     ·
      obtain ⟨z1, z2, z3, z4, z5, z6, z7, z8, z9, z10, z11, z12, z13, z14, z15, z16, z17, z18⟩ := cs18 H2.out 0 rfl; go_wp2_with fail
      clear z1 z2 z3 z4 z5 z6 z7 z8 z9 z10 z11 z12 z13 z14 z15 z16 z17 z18; have he0 := HEB.out; try simp only [decide_eq_true_eq, decide_eq_false_iff_not] at he0
      go_ret
      exact ⟨ret_b (by unfold sfOk; have := c1h.out; have := c2h.out; have := c3h.out; exact (decide_eq_false (by omega)).symm), H2.out.bl⟩
     obtain ⟨z1, z2, z3, z4, z5, z6, z7, z8, z9, z10, z11, z12, z13, z14, z15, z16, z17, z18⟩ := cs18 H2.out 0 rfl; go_wp2_with fail
     clear z1 z2 z3 z4 z5 z6 z7 z8 z9 z10 z11 z12 z13 z14 z15 z16 z17 z18; refine (redged_any _ _).mono ?_; rintro e w1 ⟨rfl, hsw⟩; have hsw2 : k1 = w1 := by first | exact hsw | exact hsw.symm
     clear hsw; subst hsw2; rw [show edOk 5 = false from by decide]; by_cases c4 : (sh : Int) = 0
     ·
      obtain ⟨c4c, c4d⟩ : (sh : Int) ≤ 0 ∧ (0 : Int) ≤ sh := by omega
      have c4a : ((sh : Int) == (0)) = true := by simpa using c4
      have c4b : ((sh : Int) != (0)) = false := by simpa using c4
      have c4h := hid c4; clear c4; by_cases c5 : (sh2 : Int) = 0
      ·
       obtain ⟨c5c, c5d⟩ : (sh2 : Int) ≤ 0 ∧ (0 : Int) ≤ sh2 := by omega
       have c5a : ((sh2 : Int) == (0)) = true := by simpa using c5
       have c5b : ((sh2 : Int) != (0)) = false := by simpa using c5
       have c5h := hid c5; clear c5; by_cases c6 : (bins : Int) = 0
       ·
        obtain ⟨c6c, c6d⟩ : (bins : Int) ≤ 0 ∧ (0 : Int) ≤ bins := by omega
        have c6a : ((bins : Int) == (0)) = true := by simpa using c6
        have c6b : ((bins : Int) != (0)) = false := by simpa using c6
        have c6h := hid c6; clear c6; by_cases c7 : (0 : Int) < on
        ·
         obtain ⟨z1, z2, z3, z4, z5, z6, z7, z8, z9, z10, z11, z12, z13, z14, z15, z16, z17, z18⟩ := cs18 H2.out 0 rfl; go_wp2_with fail
         clear z1 z2 z3 z4 z5 z6 z7 z8 z9 z10 z11 z12 z13 z14 z15 z16 z17 z18; have he0 := HEB.out; try simp only [decide_eq_true_eq, decide_eq_false_iff_not] at he0
         go_ret
         exact ⟨ret_b (by unfold sfOk; have := c1h.out; have := c2h.out; have := c3h.out; have := c4h.out; have := c5h.out; have := c6h.out; exact (decide_eq_false (by omega)).symm), H2.out.bl⟩
        by_cases c7 : (mx : Int) = 0
        ·
         obtain ⟨c7c, c7d⟩ : (mx : Int) ≤ 0 ∧ (0 : Int) ≤ mx := by omega
         have c7a : ((mx : Int) == (0)) = true := by simpa using c7
         have c7b : ((mx : Int) != (0)) = false := by simpa using c7
         have c7h := hid c7; clear c7; obtain ⟨z1, z2, z3, z4, z5, z6, z7, z8, z9, z10, z11, z12, z13, z14, z15, z16, z17, z18⟩ := cs18 H2.out 0 rfl; go_wp2_with fail
         clear z1 z2 z3 z4 z5 z6 z7 z8 z9 z10 z11 z12 z13 z14 z15 z16 z17 z18; have he0 := HEB.out; try simp only [decide_eq_true_eq, decide_eq_false_iff_not] at he0
         go_ret
         exact ⟨ret_b (by unfold sfOk; have := c1h.out; have := c2h.out; have := c3h.out; have := c4h.out; have := c5h.out; have := c6h.out; have := c7h.out; exact (decide_eq_true (by omega)).symm), H2.out.bl⟩
        have c7a : ((mx : Int) == (0)) = false := by simpa using c7
        have c7b : ((mx : Int) != (0)) = true := by simpa using c7
        have c7h := hid c7; clear c7; obtain ⟨z1, z2, z3, z4, z5, z6, z7, z8, z9, z10, z11, z12, z13, z14, z15, z16, z17, z18⟩ := cs18 H2.out 0 rfl; go_wp2_with fail
        clear z1 z2 z3 z4 z5 z6 z7 z8 z9 z10 z11 z12 z13 z14 z15 z16 z17 z18; have he0 := HEB.out; try simp only [decide_eq_true_eq, decide_eq_false_iff_not] at he0
        go_ret
        exact ⟨ret_b (by unfold sfOk; have := c1h.out; have := c2h.out; have := c3h.out; have := c4h.out; have := c5h.out; have := c6h.out; have := c7h.out; exact (decide_eq_false (by omega)).symm), H2.out.bl⟩
       have c6a : ((bins : Int) == (0)) = false := by simpa using c6
       have c6b : ((bins : Int) != (0)) = true := by simpa using c6
       have c6h := hid c6; clear c6; obtain ⟨z1, z2, z3, z4, z5, z6, z7, z8, z9, z10, z11, z12, z13, z14, z15, z16, z17, z18⟩ := cs18 H2.out 0 rfl; go_wp2_with fail
       clear z1 z2 z3 z4 z5 z6 z7 z8 z9 z10 z11 z12 z13 z14 z15 z16 z17 z18; have he0 := HEB.out; try simp only [decide_eq_true_eq, decide_eq_false_iff_not] at he0
       go_ret
       exact ⟨ret_b (by unfold sfOk; have := c1h.out; have := c2h.out; have := c3h.out; have := c4h.out; have := c5h.out; have := c6h.out; exact (decide_eq_false (by omega)).symm), H2.out.bl⟩
      have c5a : ((sh2 : Int) == (0)) = false := by simpa using c5
      have c5b : ((sh2 : Int) != (0)) = true := by simpa using c5
      have c5h := hid c5; clear c5; obtain ⟨z1, z2, z3, z4, z5, z6, z7, z8, z9, z10, z11, z12, z13, z14, z15, z16, z17, z18⟩ := cs18 H2.out 0 rfl; go_wp2_with fail
      clear z1 z2 z3 z4 z5 z6 z7 z8 z9 z10 z11 z12 z13 z14 z15 z16 z17 z18; have he0 := HEB.out; try simp only [decide_eq_true_eq, decide_eq_false_iff_not] at he0
      go_ret
      exact ⟨ret_b (by unfold sfOk; have := c1h.out; have := c2h.out; have := c3h.out; have := c4h.out; have := c5h.out; exact (decide_eq_false (by omega)).symm), H2.out.bl⟩
     have c4a : ((sh : Int) == (0)) = false := by simpa using c4
     have c4b : ((sh : Int) != (0)) = true := by simpa using c4
     have c4h := hid c4; clear c4; obtain ⟨z1, z2, z3, z4, z5, z6, z7, z8, z9, z10, z11, z12, z13, z14, z15, z16, z17, z18⟩ := cs18 H2.out 0 rfl; go_wp2_with fail
     clear z1 z2 z3 z4 z5 z6 z7 z8 z9 z10 z11 z12 z13 z14 z15 z16 z17 z18; have he0 := HEB.out; try simp only [decide_eq_true_eq, decide_eq_false_iff_not] at he0
     go_ret
     exact ⟨ret_b (by unfold sfOk; have := c1h.out; have := c2h.out; have := c3h.out; have := c4h.out; exact (decide_eq_false (by omega)).symm), H2.out.bl⟩
    have c3a : ((kh : Int) == (0)) = false := by simpa using c3
    have c3b : ((kh : Int) != (0)) = true := by simpa using c3
    have c3h := hid c3; clear c3; obtain ⟨z1, z2, z3, z4, z5, z6, z7, z8, z9, z10, z11, z12, z13, z14, z15, z16, z17, z18⟩ := cs18 H2.out 0 rfl; go_wp2_with fail
    clear z1 z2 z3 z4 z5 z6 z7 z8 z9 z10 z11 z12 z13 z14 z15 z16 z17 z18; have he0 := HEB.out; try simp only [decide_eq_true_eq, decide_eq_false_iff_not] at he0
    go_ret
    exact ⟨ret_b (by unfold sfOk; have := c1h.out; have := c2h.out; have := c3h.out; exact (decide_eq_false (by omega)).symm), H2.out.bl⟩
   have c2a : ((kw : Int) == (0)) = false := by simpa using c2
   have c2b : ((kw : Int) != (0)) = true := by simpa using c2
   have c2h := hid c2; clear c2; obtain ⟨z1, z2, z3, z4, z5, z6, z7, z8, z9, z10, z11, z12, z13, z14, z15, z16, z17, z18⟩ := cs18 H2.out 0 rfl; go_wp2_with fail
   clear z1 z2 z3 z4 z5 z6 z7 z8 z9 z10 z11 z12 z13 z14 z15 z16 z17 z18; have he0 := HEB.out; try simp only [decide_eq_true_eq, decide_eq_false_iff_not] at he0
   go_ret
   exact ⟨ret_b (by unfold sfOk; have := c1h.out; have := c2h.out; exact (decide_eq_false (by omega)).symm), H2.out.bl⟩
  obtain ⟨z1, z2, z3, z4, z5, z6, z7, z8, z9, z10, z11, z12, z13, z14, z15, z16, z17, z18⟩ := cs18 H2.out 0 rfl; go_wp2_with fail
  clear z1 z2 z3 z4 z5 z6 z7 z8 z9 z10 z11 z12 z13 z14 z15 z16 z17 z18; have he0 := HEB.out; try simp only [decide_eq_true_eq, decide_eq_false_iff_not] at he0
  go_ret
  exact ⟨ret_b (by unfold sfOk; have := c1h.out; exact (decide_eq_false (by omega)).symm), H2.out.bl⟩
 have c1a : ((sb : Int) == ((-1))) = false := by simpa using c1
 have c1b : ((sb : Int) != ((-1))) = true := by simpa using c1
 have c1h := hid c1; clear c1; obtain ⟨z1, z2, z3, z4, z5, z6, z7, z8, z9, z10, z11, z12, z13, z14, z15, z16, z17, z18⟩ := cs18 H1.out 0 rfl; go_wp2_with fail
 clear z1 z2 z3 z4 z5 z6 z7 z8 z9 z10 z11 z12 z13 z14 z15 z16 z17 z18; have he0 := HEB.out; try simp only [decide_eq_true_eq, decide_eq_false_iff_not] at he0
 go_ret
 exact ⟨ret_b (by unfold sfOk; have := c1h.out; exact (decide_eq_false (by omega)).symm), H1.out.bl⟩

set_option maxRecDepth 100000 in
set_option maxHeartbeats 6400000 in
theorem rsfields_6 (sa sb : Int) (bar : Bool) (ep ef kw kh : Int) (wa : Option Addr) (wn wc : Nat) (ra : Option Addr) (rn rc : Nat) (ca : Option Addr) (cn cc : Nat) (sh sh2 : Int) (xa : Option Addr) (xn xc : Nat) (ya : Option Addr) (yn yc : Nat) (bins : Int) (oa : Option Addr) (on oc : Nat) (mx : Int) (W : World) : Calls Try.prog 12 #[.agg #[.int .i64 6, .int .i64 sa, .int .i64 sb, .bool bar, .int .i64 ep, .int .i64 ef, .int .i64 kw, .int .i64 kh, .slice wa wn wc, .slice ra rn rc, .slice ca cn cc, .int .i64 sh, .int .i64 sh2, .slice xa xn xc, .slice ya yn yc, .int .i64 bins, .slice oa on oc, .int .i64 mx]] W fun e w' => e = .returned (.bool (sfOk 6 sb ep ef kw kh wn rn cn sh sh2 xn yn bins on mx)) ∧ Below W.heap.size W w' := by
 obtain ⟨B, hB⟩ : ∃ B, W.heap.size = B := ⟨_, rfl⟩; have HI0 := hid (St.init hB); obtain ⟨eb, heb⟩ : ∃ x, decide (ep = 0 ∧ ef = 0) = x := ⟨_, rfl⟩; have HEB := hid heb
 go_enter Try.func12, Try.ntmps12
 go_upto_region 1 with fail
 have H1 := hid (HI0.out.alloc #[.int .i64 6, .int .i64 sa, .int .i64 sb, .bool bar, .int .i64 ep, .int .i64 ef, .int .i64 kw, .int .i64 kh, .slice wa wn wc, .slice ra rn rc, .slice ca cn cc, .int .i64 sh, .int .i64 sh2, .slice xa xn xc, .slice ya yn yc, .int .i64 bins, .slice oa on oc, .int .i64 mx] 33 hB); first | refine gK H1 ?_ | refine gL H1 ?_ | refine gC H1 ?_
 clear H1; intro w1 H1; obtain ⟨z1, z2, z3, z4, z5, z6, z7, z8, z9, z10, z11, z12, z13, z14, z15, z16, z17, z18⟩ := cs18 H1.out 0 rfl; go_upto_region 3 with fail
 clear z1 z2 z3 z4 z5 z6 z7 z8 z9 z10 z11 z12 z13 z14 z15 z16 z17 z18; have H2 := hid H1.out.drew; refine wp_region_held_drew (S := (fun w' => w'.cell? ⟨B, 0, none⟩ = some (.int .i64 6) ∧ w'.cell? ⟨B, 1, none⟩ = some (.int .i64 sa) ∧ w'.cell? ⟨B, 2, none⟩ = some (.int .i64 sb) ∧ w'.cell? ⟨B, 3, none⟩ = some (.bool bar) ∧ w'.cell? ⟨B, 4, none⟩ = some (.int .i64 ep) ∧ w'.cell? ⟨B, 5, none⟩ = some (.int .i64 ef) ∧ w'.cell? ⟨B, 6, none⟩ = some (.int .i64 kw) ∧ w'.cell? ⟨B, 7, none⟩ = some (.int .i64 kh) ∧ w'.cell? ⟨B, 8, none⟩ = some (.slice wa wn wc) ∧ w'.cell? ⟨B, 9, none⟩ = some (.slice ra rn rc) ∧ w'.cell? ⟨B, 10, none⟩ = some (.slice ca cn cc) ∧ w'.cell? ⟨B, 11, none⟩ = some (.int .i64 sh) ∧ w'.cell? ⟨B, 12, none⟩ = some (.int .i64 sh2) ∧ w'.cell? ⟨B, 13, none⟩ = some (.slice xa xn xc) ∧ w'.cell? ⟨B, 14, none⟩ = some (.slice ya yn yc) ∧ w'.cell? ⟨B, 15, none⟩ = some (.int .i64 bins) ∧ w'.cell? ⟨B, 16, none⟩ = some (.slice oa on oc) ∧ w'.cell? ⟨B, 17, none⟩ = some (.int .i64 mx))) (by kernel_rfl) ⟨H2.out.cell 0 rfl 0 rfl, H2.out.cell 0 rfl 1 rfl, H2.out.cell 0 rfl 2 rfl, H2.out.cell 0 rfl 3 rfl, H2.out.cell 0 rfl 4 rfl, H2.out.cell 0 rfl 5 rfl, H2.out.cell 0 rfl 6 rfl, H2.out.cell 0 rfl 7 rfl, H2.out.cell 0 rfl 8 rfl, H2.out.cell 0 rfl 9 rfl, H2.out.cell 0 rfl 10 rfl, H2.out.cell 0 rfl 11 rfl, H2.out.cell 0 rfl 12 rfl, H2.out.cell 0 rfl 13 rfl, H2.out.cell 0 rfl 14 rfl, H2.out.cell 0 rfl 15 rfl, H2.out.cell 0 rfl 16 rfl, H2.out.cell 0 rfl 17 rfl⟩ (fun hHeld => ?_); generalize w1.drew = k1 at *; refine tk 0 ?_; refine tk 1 ?_; refine tk 2 ?_; refine tk 3 ?_; refine tk 4 ?_; refine tk 5 ?_; refine tk 6 ?_; refine tk 7 ?_; refine tk 8 ?_; refine tk 9 ?_; refine tk 10 ?_; refine tk 11 ?_; refine wpAnyH_done (by kernel_rfl) ?_ _; try clear hHeld
 obtain ⟨z1, z2, z3, z4, z5, z6, z7, z8, z9, z10, z11, z12, z13, z14, z15, z16, z17, z18⟩ := cs18 H2.out 0 rfl; go_wp2_with fail
 clear z1 z2 z3 z4 z5 z6 z7 z8 z9 z10 z11 z12 z13 z14 z15 z16 z17 z18; refine (redged_any _ _).mono ?_; rintro e w1 ⟨rfl, hsw⟩; have hsw2 : k1 = w1 := by first | exact hsw | exact hsw.symm
 clear hsw; subst hsw2; rw [show edOk 6 = false from by decide]; cases eb; rotate_left
 ·
  by_cases c1 : (kw : Int) = 0
  ·
   obtain ⟨c1c, c1d⟩ : (kw : Int) ≤ 0 ∧ (0 : Int) ≤ kw := by omega
   have c1a : ((kw : Int) == (0)) = true := by simpa using c1
   have c1b : ((kw : Int) != (0)) = false := by simpa using c1
   have c1h := hid c1; clear c1; by_cases c2 : (kh : Int) = 0
   ·
    obtain ⟨c2c, c2d⟩ : (kh : Int) ≤ 0 ∧ (0 : Int) ≤ kh := by omega
    have c2a : ((kh : Int) == (0)) = true := by simpa using c2
    have c2b : ((kh : Int) != (0)) = false := by simpa using c2
    have c2h := hid c2; clear c2; by_cases c3 : (0 : Int) < wn
    ·
     obtain ⟨z1, z2, z3, z4, z5, z6, z7, z8, z9, z10, z11, z12, z13, z14, z15, z16, z17, z18⟩ := cs18 H2.out 0 rfl; go_wp2_with fail
     clear z1 z2 z3 z4 z5 z6 z7 z8 z9 z10 z11 z12 z13 z14 z15 z16 z17 z18; have he0 := HEB.out; try simp only [decide_eq_true_eq, decide_eq_false_iff_not] at he0
     go_ret
     exact ⟨ret_b (by unfold sfOk; have := c1h.out; have := c2h.out; exact (decide_eq_false (by omega)).symm), H2.out.bl⟩
    by_cases c3 : (0 : Int) < rn
    ·
     obtain ⟨z1, z2, z3, z4, z5, z6, z7, z8, z9, z10, z11, z12, z13, z14, z15, z16, z17, z18⟩ := cs18 H2.out 0 rfl; go_wp2_with fail
     clear z1 z2 z3 z4 z5 z6 z7 z8 z9 z10 z11 z12 z13 z14 z15 z16 z17 z18; have he0 := HEB.out; try simp only [decide_eq_true_eq, decide_eq_false_iff_not] at he0
     go_ret
     exact ⟨ret_b (by unfold sfOk; have := c1h.out; have := c2h.out; exact (decide_eq_false (by omega)).symm), H2.out.bl⟩
    by_cases c3 : (0 : Int) < cn
    ·
     obtain ⟨z1, z2, z3, z4, z5, z6, z7, z8, z9, z10, z11, z12, z13, z14, z15, z16, z17, z18⟩ := cs18 H2.out 0 rfl; go_wp2_with fail
     clear z1 z2 z3 z4 z5 z6 z7 z8 z9 z10 z11 z12 z13 z14 z15 z16 z17 z18; have he0 := HEB.out; try simp only [decide_eq_true_eq, decide_eq_false_iff_not] at he0
     go_ret
     exact ⟨ret_b (by unfold sfOk; have := c1h.out; have := c2h.out; exact (decide_eq_false (by omega)).symm), H2.out.bl⟩
    by_cases c3 : (0 : Int) < xn
    ·
     obtain ⟨z1, z2, z3, z4, z5, z6, z7, z8, z9, z10, z11, z12, z13, z14, z15, z16, z17, z18⟩ := cs18 H2.out 0 rfl; go_wp2_with fail
     clear z1 z2 z3 z4 z5 z6 z7 z8 z9 z10 z11 z12 z13 z14 z15 z16 z17 z18; have he0 := HEB.out; try simp only [decide_eq_true_eq, decide_eq_false_iff_not] at he0
     go_ret
     exact ⟨ret_b (by unfold sfOk; have := c1h.out; have := c2h.out; exact (decide_eq_false (by omega)).symm), H2.out.bl⟩
    by_cases c3 : (0 : Int) < yn
    ·
     obtain ⟨z1, z2, z3, z4, z5, z6, z7, z8, z9, z10, z11, z12, z13, z14, z15, z16, z17, z18⟩ := cs18 H2.out 0 rfl; go_wp2_with fail
     clear z1 z2 z3 z4 z5 z6 z7 z8 z9 z10 z11 z12 z13 z14 z15 z16 z17 z18; have he0 := HEB.out; try simp only [decide_eq_true_eq, decide_eq_false_iff_not] at he0
     go_ret
     exact ⟨ret_b (by unfold sfOk; have := c1h.out; have := c2h.out; exact (decide_eq_false (by omega)).symm), H2.out.bl⟩
    obtain ⟨z1, z2, z3, z4, z5, z6, z7, z8, z9, z10, z11, z12, z13, z14, z15, z16, z17, z18⟩ := cs18 H2.out 0 rfl; go_wp2_with fail
    clear z1 z2 z3 z4 z5 z6 z7 z8 z9 z10 z11 z12 z13 z14 z15 z16 z17 z18; refine (redged_any _ _).mono ?_; rintro e w1 ⟨rfl, hsw⟩; have hsw2 : k1 = w1 := by first | exact hsw | exact hsw.symm
    clear hsw; subst hsw2; rw [show edOk 6 = false from by decide]; by_cases c3 : (sh : Int) = 0
    ·
     obtain ⟨c3c, c3d⟩ : (sh : Int) ≤ 0 ∧ (0 : Int) ≤ sh := by omega
     have c3a : ((sh : Int) == (0)) = true := by simpa using c3
     have c3b : ((sh : Int) != (0)) = false := by simpa using c3
     have c3h := hid c3; clear c3; by_cases c4 : (sh2 : Int) = 0
     ·
      obtain ⟨c4c, c4d⟩ : (sh2 : Int) ≤ 0 ∧ (0 : Int) ≤ sh2 := by omega
      have c4a : ((sh2 : Int) == (0)) = true := by simpa using c4
      have c4b : ((sh2 : Int) != (0)) = false := by simpa using c4
      have c4h := hid c4; clear c4; by_cases c5 : (bins : Int) = 0
      ·
       obtain ⟨c5c, c5d⟩ : (bins : Int) ≤ 0 ∧ (0 : Int) ≤ bins := by omega
       have c5a : ((bins : Int) == (0)) = true := by simpa using c5
       have c5b : ((bins : Int) != (0)) = false := by simpa using c5
       have c5h := hid c5; clear c5; obtain ⟨z1, z2, z3, z4, z5, z6, z7, z8, z9, z10, z11, z12, z13, z14, z15, z16, z17, z18⟩ := cs18 H2.out 0 rfl; go_wp2_with fail
       clear z1 z2 z3 z4 z5 z6 z7 z8 z9 z10 z11 z12 z13 z14 z15 z16 z17 z18; have he0 := HEB.out; try simp only [decide_eq_true_eq, decide_eq_false_iff_not] at he0
       go_ret
       exact ⟨ret_b (by unfold sfOk; have := c1h.out; have := c2h.out; have := c3h.out; have := c4h.out; have := c5h.out; exact (decide_eq_true (by omega)).symm), H2.out.bl⟩
      have c5a : ((bins : Int) == (0)) = false := by simpa using c5
      have c5b : ((bins : Int) != (0)) = true := by simpa using c5
      have c5h := hid c5; clear c5; obtain ⟨z1, z2, z3, z4, z5, z6, z7, z8, z9, z10, z11, z12, z13, z14, z15, z16, z17, z18⟩ := cs18 H2.out 0 rfl; go_wp2_with fail
      clear z1 z2 z3 z4 z5 z6 z7 z8 z9 z10 z11 z12 z13 z14 z15 z16 z17 z18; have he0 := HEB.out; try simp only [decide_eq_true_eq, decide_eq_false_iff_not] at he0
      go_ret
      exact ⟨ret_b (by unfold sfOk; have := c1h.out; have := c2h.out; have := c3h.out; have := c4h.out; have := c5h.out; exact (decide_eq_false (by omega)).symm), H2.out.bl⟩
     have c4a : ((sh2 : Int) == (0)) = false := by simpa using c4
     have c4b : ((sh2 : Int) != (0)) = true := by simpa using c4
     have c4h := hid c4; clear c4; obtain ⟨z1, z2, z3, z4, z5, z6, z7, z8, z9, z10, z11, z12, z13, z14, z15, z16, z17, z18⟩ := cs18 H2.out 0 rfl; go_wp2_with fail
     clear z1 z2 z3 z4 z5 z6 z7 z8 z9 z10 z11 z12 z13 z14 z15 z16 z17 z18; have he0 := HEB.out; try simp only [decide_eq_true_eq, decide_eq_false_iff_not] at he0
     go_ret
     exact ⟨ret_b (by unfold sfOk; have := c1h.out; have := c2h.out; have := c3h.out; have := c4h.out; exact (decide_eq_false (by omega)).symm), H2.out.bl⟩
    have c3a : ((sh : Int) == (0)) = false := by simpa using c3
    have c3b : ((sh : Int) != (0)) = true := by simpa using c3
    have c3h := hid c3; clear c3; obtain ⟨z1, z2, z3, z4, z5, z6, z7, z8, z9, z10, z11, z12, z13, z14, z15, z16, z17, z18⟩ := cs18 H2.out 0 rfl; go_wp2_with fail
    clear z1 z2 z3 z4 z5 z6 z7 z8 z9 z10 z11 z12 z13 z14 z15 z16 z17 z18; have he0 := HEB.out; try simp only [decide_eq_true_eq, decide_eq_false_iff_not] at he0
    go_ret
    exact ⟨ret_b (by unfold sfOk; have := c1h.out; have := c2h.out; have := c3h.out; exact (decide_eq_false (by omega)).symm), H2.out.bl⟩
   have c2a : ((kh : Int) == (0)) = false := by simpa using c2
   have c2b : ((kh : Int) != (0)) = true := by simpa using c2
   have c2h := hid c2; clear c2; obtain ⟨z1, z2, z3, z4, z5, z6, z7, z8, z9, z10, z11, z12, z13, z14, z15, z16, z17, z18⟩ := cs18 H2.out 0 rfl; go_wp2_with fail
   clear z1 z2 z3 z4 z5 z6 z7 z8 z9 z10 z11 z12 z13 z14 z15 z16 z17 z18; have he0 := HEB.out; try simp only [decide_eq_true_eq, decide_eq_false_iff_not] at he0
   go_ret
   exact ⟨ret_b (by unfold sfOk; have := c1h.out; have := c2h.out; exact (decide_eq_false (by omega)).symm), H2.out.bl⟩
  have c1a : ((kw : Int) == (0)) = false := by simpa using c1
  have c1b : ((kw : Int) != (0)) = true := by simpa using c1
  have c1h := hid c1; clear c1; obtain ⟨z1, z2, z3, z4, z5, z6, z7, z8, z9, z10, z11, z12, z13, z14, z15, z16, z17, z18⟩ := cs18 H2.out 0 rfl; go_wp2_with fail
  clear z1 z2 z3 z4 z5 z6 z7 z8 z9 z10 z11 z12 z13 z14 z15 z16 z17 z18; have he0 := HEB.out; try simp only [decide_eq_true_eq, decide_eq_false_iff_not] at he0
  go_ret
  exact ⟨ret_b (by unfold sfOk; have := c1h.out; exact (decide_eq_false (by omega)).symm), H2.out.bl⟩
 obtain ⟨z1, z2, z3, z4, z5, z6, z7, z8, z9, z10, z11, z12, z13, z14, z15, z16, z17, z18⟩ := cs18 H2.out 0 rfl; go_wp2_with fail
 clear z1 z2 z3 z4 z5 z6 z7 z8 z9 z10 z11 z12 z13 z14 z15 z16 z17 z18; have he0 := HEB.out; try simp only [decide_eq_true_eq, decide_eq_false_iff_not] at he0
 go_ret
 exact ⟨ret_b (by unfold sfOk; exact (decide_eq_false (by omega)).symm), H2.out.bl⟩

set_option maxRecDepth 100000 in
set_option maxHeartbeats 6400000 in
theorem rsfields_any (kd sa sb : Int) (bar : Bool) (ep ef kw kh : Int) (wa : Option Addr) (wn wc : Nat) (ra : Option Addr) (rn rc : Nat) (ca : Option Addr) (cn cc : Nat) (sh sh2 : Int) (xa : Option Addr) (xn xc : Nat) (ya : Option Addr) (yn yc : Nat) (bins : Int) (oa : Option Addr) (on oc : Nat) (mx : Int) (W : World) : Calls Try.prog 12 #[.agg #[.int .i64 kd, .int .i64 sa, .int .i64 sb, .bool bar, .int .i64 ep, .int .i64 ef, .int .i64 kw, .int .i64 kh, .slice wa wn wc, .slice ra rn rc, .slice ca cn cc, .int .i64 sh, .int .i64 sh2, .slice xa xn xc, .slice ya yn yc, .int .i64 bins, .slice oa on oc, .int .i64 mx]] W fun e w' => e = .returned (.bool (sfOk kd sb ep ef kw kh wn rn cn sh sh2 xn yn bins on mx)) ∧ Below W.heap.size W w' := by
 by_cases hk : 1 ≤ kd ∧ kd ≤ 6
 ·
  rcases (show kd = 1 ∨ kd = 2 ∨ kd = 3 ∨ kd = 4 ∨ kd = 5 ∨ kd = 6 by omega) with rfl | rfl | rfl | rfl | rfl | rfl
  ·
   exact rsfields_1 _ _ _ _ _ _ _ _ _ _ _ _ _ _ _ _ _ _ _ _ _ _ _ _ _ _ _ _ _ _
  ·
   exact rsfields_2 _ _ _ _ _ _ _ _ _ _ _ _ _ _ _ _ _ _ _ _ _ _ _ _ _ _ _ _ _ _
  ·
   exact rsfields_3 _ _ _ _ _ _ _ _ _ _ _ _ _ _ _ _ _ _ _ _ _ _ _ _ _ _ _ _ _ _
  ·
   exact rsfields_4 _ _ _ _ _ _ _ _ _ _ _ _ _ _ _ _ _ _ _ _ _ _ _ _ _ _ _ _ _ _
  ·
   exact rsfields_5 _ _ _ _ _ _ _ _ _ _ _ _ _ _ _ _ _ _ _ _ _ _ _ _ _ _ _ _ _ _
  exact rsfields_6 _ _ _ _ _ _ _ _ _ _ _ _ _ _ _ _ _ _ _ _ _ _ _ _ _ _ _ _ _ _
 obtain ⟨B, hB⟩ : ∃ B, W.heap.size = B := ⟨_, rfl⟩; have HI0 := hid (St.init hB)
 go_enter Try.func12, Try.ntmps12
 go_upto_region 1 with fail
 have H1 := hid (HI0.out.alloc #[.int .i64 kd, .int .i64 sa, .int .i64 sb, .bool bar, .int .i64 ep, .int .i64 ef, .int .i64 kw, .int .i64 kh, .slice wa wn wc, .slice ra rn rc, .slice ca cn cc, .int .i64 sh, .int .i64 sh2, .slice xa xn xc, .slice ya yn yc, .int .i64 bins, .slice oa on oc, .int .i64 mx] 33 hB); first | refine gK H1 ?_ | refine gL H1 ?_ | refine gC H1 ?_
 clear H1; intro w1 H1; by_cases c1 : (kd : Int) < 1
 ·
  obtain ⟨z1, z2, z3, z4, z5, z6, z7, z8, z9, z10, z11, z12, z13, z14, z15, z16, z17, z18⟩ := cs18 H1.out 0 rfl; go_wp2_with fail
  clear z1 z2 z3 z4 z5 z6 z7 z8 z9 z10 z11 z12 z13 z14 z15 z16 z17 z18
  go_ret
  exact ⟨ret_b (by unfold sfOk; exact (decide_eq_false (by omega)).symm), H1.out.bl⟩
 by_cases c1 : (6 : Int) < kd
 ·
  obtain ⟨z1, z2, z3, z4, z5, z6, z7, z8, z9, z10, z11, z12, z13, z14, z15, z16, z17, z18⟩ := cs18 H1.out 0 rfl; go_wp2_with fail
  clear z1 z2 z3 z4 z5 z6 z7 z8 z9 z10 z11 z12 z13 z14 z15 z16 z17 z18
  go_ret
  exact ⟨ret_b (by unfold sfOk; exact (decide_eq_false (by omega)).symm), H1.out.bl⟩
 exfalso; omega
end Go.Proofs.Yteejjnhlfgjlaaa
