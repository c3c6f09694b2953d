/-
 Contract: which fields a stage may use, in the reference.
-/
import Derived.Test.YteejjnhlfgjlaaaGreatStF
import Derived.Test.YteejjnhlfgjlaaaGreatKH
namespace Go.Proofs.YteejjnhlfgjlaaaGreat
open Go.RowKit
attribute [local go_sem ↓] Go.wp_at_zero Go.wp_at_succ edge_eq edge_ne
set_option linter.unusedVariables false
set_option linter.unusedSimpArgs false

set_option maxRecDepth 100000 in
set_option maxHeartbeats 6400000 in
theorem rsfields_1 (sa sb : Int) (bar : Bool) (ep ef kw kh : Int) (wa : Option Addr) (wn wc : Nat) (ra : Option Addr) (rn rc : Nat) (ca : Option Addr) (cn cc : Nat) (sh sh2 : Int) (xa : Option Addr) (xn xc : Nat) (ya : Option Addr) (yn yc : Nat) (bins : Int) (oa : Option Addr) (on oc : Nat) (mx : Int) (W : World) : Calls Tryz.prog 44 #[.agg #[.int .i64 1, .int .i64 sa, .int .i64 sb, .bool bar, .int .i64 ep, .int .i64 ef, .int .i64 kw, .int .i64 kh, .slice wa wn wc, .slice ra rn rc, .slice ca cn cc, .int .i64 sh, .int .i64 sh2, .slice xa xn xc, .slice ya yn yc, .int .i64 bins, .slice oa on oc, .int .i64 mx]] W fun e w' => e = .returned (.bool (sfOk 1 sb ep ef kw kh wn rn cn sh sh2 xn yn bins on mx)) ∧ Below W.heap.size W w' := by
 obtain ⟨B, hB⟩ : ∃ B, W.heap.size = B := ⟨_, rfl⟩; have HI0 := kq (St.init hB); obtain ⟨eb, heb⟩ := nK (decide (ep = 0 ∧ ef = 0)); have HEB := kq heb
 go_enter Tryz.func44, Tryz.ntmps44
 go_upto_region 1 with fail
 have H1 := kq (HI0.o.alloc #[.int .i64 1, .int .i64 sa, .int .i64 sb, .bool bar, .int .i64 ep, .int .i64 ef, .int .i64 kw, .int .i64 kh, .slice wa wn wc, .slice ra rn rc, .slice ca cn cc, .int .i64 sh, .int .i64 sh2, .slice xa xn xc, .slice ya yn yc, .int .i64 bins, .slice oa on oc, .int .i64 mx] 34 hB); first | refine gK H1 ?_ | refine gL H1 ?_ | refine gC H1 ?_
 clear H1; intro w1 H1
 rcases eqZ sb (-1) with ⟨c1a, c1b, c1c, c1d, c1h⟩ | ⟨c1a, c1b, c1h⟩
 ·
  have z1 := cs18 H1.o 0 rfl; go_upto_region 3 with fail
  clear z1; have H2 := kq H1.o.drew; refine wp_region_held_drew (S := (fun w' => w'.cell? ⟨B, 0, none⟩ = some (.int .i64 1) ∧ w'.cell? ⟨B, 1, none⟩ = some (.int .i64 sa) ∧ w'.cell? ⟨B, 2, none⟩ = some (.int .i64 sb) ∧ w'.cell? ⟨B, 3, none⟩ = some (.bool bar) ∧ w'.cell? ⟨B, 4, none⟩ = some (.int .i64 ep) ∧ w'.cell? ⟨B, 5, none⟩ = some (.int .i64 ef) ∧ w'.cell? ⟨B, 6, none⟩ = some (.int .i64 kw) ∧ w'.cell? ⟨B, 7, none⟩ = some (.int .i64 kh) ∧ w'.cell? ⟨B, 8, none⟩ = some (.slice wa wn wc) ∧ w'.cell? ⟨B, 9, none⟩ = some (.slice ra rn rc) ∧ w'.cell? ⟨B, 10, none⟩ = some (.slice ca cn cc) ∧ w'.cell? ⟨B, 11, none⟩ = some (.int .i64 sh) ∧ w'.cell? ⟨B, 12, none⟩ = some (.int .i64 sh2) ∧ w'.cell? ⟨B, 13, none⟩ = some (.slice xa xn xc) ∧ w'.cell? ⟨B, 14, none⟩ = some (.slice ya yn yc) ∧ w'.cell? ⟨B, 15, none⟩ = some (.int .i64 bins) ∧ w'.cell? ⟨B, 16, none⟩ = some (.slice oa on oc) ∧ w'.cell? ⟨B, 17, none⟩ = some (.int .i64 mx))) (by kernel_rfl) ⟨H2.o.cell 0 rfl 0 rfl, H2.o.cell 0 rfl 1 rfl, H2.o.cell 0 rfl 2 rfl, H2.o.cell 0 rfl 3 rfl, H2.o.cell 0 rfl 4 rfl, H2.o.cell 0 rfl 5 rfl, H2.o.cell 0 rfl 6 rfl, H2.o.cell 0 rfl 7 rfl, H2.o.cell 0 rfl 8 rfl, H2.o.cell 0 rfl 9 rfl, H2.o.cell 0 rfl 10 rfl, H2.o.cell 0 rfl 11 rfl, H2.o.cell 0 rfl 12 rfl, H2.o.cell 0 rfl 13 rfl, H2.o.cell 0 rfl 14 rfl, H2.o.cell 0 rfl 15 rfl, H2.o.cell 0 rfl 16 rfl, H2.o.cell 0 rfl 17 rfl⟩ (fun hHeld => ?_); generalize w1.drew = k1 at *; refine tk 0 ?_; refine tk 1 ?_; refine tk 2 ?_; refine tk 3 ?_; refine tk 4 ?_; refine tk 5 ?_; refine tk 6 ?_; refine tk 7 ?_; refine tk 8 ?_; refine tk 9 ?_; refine tk 10 ?_; refine tk 11 ?_; refine wpAnyH_done (by kernel_rfl) ?_ _; try clear hHeld
  have z1 := cs18 H2.o 0 rfl; go_wp2_with fail
  clear z1; refine (redged_any _ _).mono ?_; rintro e w1 ⟨rfl, hsw⟩; have hsw2 : k1 = w1 := by first | exact hsw | exact hsw.symm
  clear hsw; subst hsw2; rw [show edOk 1 = true from by decide]; by_cases c2 : (0 : Int) < rn
  ·
   have z1 := cs18 H2.o 0 rfl; go_wp2_with fail
   clear z1; have he0 := HEB.o; try simp only [dQ] at he0
   go_ret
   exact ⟨ret_b (by unfold sfOk; have := c1h.o; exact (decide_eq_false (by omega)).symm), H2.o.bl⟩
  by_cases c2 : (0 : Int) < cn
  ·
   have z1 := cs18 H2.o 0 rfl; go_wp2_with fail
   clear z1; have he0 := HEB.o; try simp only [dQ] at he0
   go_ret
   exact ⟨ret_b (by unfold sfOk; have := c1h.o; exact (decide_eq_false (by omega)).symm), H2.o.bl⟩
  by_cases c2 : (0 : Int) < xn
  ·
   have z1 := cs18 H2.o 0 rfl; go_wp2_with fail
   clear z1; have he0 := HEB.o; try simp only [dQ] at he0
   go_ret
   exact ⟨ret_b (by unfold sfOk; have := c1h.o; exact (decide_eq_false (by omega)).symm), H2.o.bl⟩
  by_cases c2 : (0 : Int) < yn
  ·
   have z1 := cs18 H2.o 0 rfl; go_wp2_with fail
   clear z1; have he0 := HEB.o; try simp only [dQ] at he0
   go_ret
   exact ⟨ret_b (by unfold sfOk; have := c1h.o; exact (decide_eq_false (by omega)).symm), H2.o.bl⟩
  have z1 := cs18 H2.o 0 rfl; go_wp2_with fail
  clear z1; refine (redged_any _ _).mono ?_; rintro e w1 ⟨rfl, hsw⟩; have hsw2 : k1 = w1 := by first | exact hsw | exact hsw.symm
  clear hsw; subst hsw2; rw [show edOk 1 = true from by decide]
  rcases eqZ sh2 0 with ⟨c2a, c2b, c2c, c2d, c2h⟩ | ⟨c2a, c2b, c2h⟩
  ·
   rcases eqZ bins 0 with ⟨c3a, c3b, c3c, c3d, c3h⟩ | ⟨c3a, c3b, c3h⟩
   ·
    by_cases c4 : (0 : Int) < on
    ·
     have z1 := cs18 H2.o 0 rfl; go_wp2_with fail
     clear z1; have he0 := HEB.o; try simp only [dQ] at he0
     go_ret
     exact ⟨ret_b (by unfold sfOk; have := c1h.o; have := c2h.o; have := c3h.o; exact (decide_eq_false (by omega)).symm), H2.o.bl⟩
    have z1 := cs18 H2.o 0 rfl; go_wp2_with fail
    clear z1; have he0 := HEB.o; try simp only [dQ] at he0
    go_ret
    exact ⟨ret_b (by unfold sfOk; have := c1h.o; have := c2h.o; have := c3h.o; exact (decide_eq_true (by omega)).symm), H2.o.bl⟩
   have z1 := cs18 H2.o 0 rfl; go_wp2_with fail
   clear z1; have he0 := HEB.o; try simp only [dQ] at he0
   go_ret
   exact ⟨ret_b (by unfold sfOk; have := c1h.o; have := c2h.o; have := c3h.o; exact (decide_eq_false (by omega)).symm), H2.o.bl⟩
  have z1 := cs18 H2.o 0 rfl; go_wp2_with fail
  clear z1; have he0 := HEB.o; try simp only [dQ] at he0
  go_ret
  exact ⟨ret_b (by unfold sfOk; have := c1h.o; have := c2h.o; exact (decide_eq_false (by omega)).symm), H2.o.bl⟩
 have z1 := cs18 H1.o 0 rfl; go_wp2_with fail
 clear z1; have he0 := HEB.o; try simp only [dQ] at he0
 go_ret
 exact ⟨ret_b (by unfold sfOk; have := c1h.o; exact (decide_eq_false (by omega)).symm), H1.o.bl⟩

set_option maxRecDepth 100000 in
set_option maxHeartbeats 6400000 in
theorem rsfields_2 (sa sb : Int) (bar : Bool) (ep ef kw kh : Int) (wa : Option Addr) (wn wc : Nat) (ra : Option Addr) (rn rc : Nat) (ca : Option Addr) (cn cc : Nat) (sh sh2 : Int) (xa : Option Addr) (xn xc : Nat) (ya : Option Addr) (yn yc : Nat) (bins : Int) (oa : Option Addr) (on oc : Nat) (mx : Int) (W : World) : Calls Tryz.prog 44 #[.agg #[.int .i64 2, .int .i64 sa, .int .i64 sb, .bool bar, .int .i64 ep, .int .i64 ef, .int .i64 kw, .int .i64 kh, .slice wa wn wc, .slice ra rn rc, .slice ca cn cc, .int .i64 sh, .int .i64 sh2, .slice xa xn xc, .slice ya yn yc, .int .i64 bins, .slice oa on oc, .int .i64 mx]] W fun e w' => e = .returned (.bool (sfOk 2 sb ep ef kw kh wn rn cn sh sh2 xn yn bins on mx)) ∧ Below W.heap.size W w' := by
 obtain ⟨B, hB⟩ : ∃ B, W.heap.size = B := ⟨_, rfl⟩; have HI0 := kq (St.init hB); obtain ⟨eb, heb⟩ := nK (decide (ep = 0 ∧ ef = 0)); have HEB := kq heb
 go_enter Tryz.func44, Tryz.ntmps44
 go_upto_region 1 with fail
 have H1 := kq (HI0.o.alloc #[.int .i64 2, .int .i64 sa, .int .i64 sb, .bool bar, .int .i64 ep, .int .i64 ef, .int .i64 kw, .int .i64 kh, .slice wa wn wc, .slice ra rn rc, .slice ca cn cc, .int .i64 sh, .int .i64 sh2, .slice xa xn xc, .slice ya yn yc, .int .i64 bins, .slice oa on oc, .int .i64 mx] 34 hB); first | refine gK H1 ?_ | refine gL H1 ?_ | refine gC H1 ?_
 clear H1; intro w1 H1
 rcases eqZ sb (-1) with ⟨c1a, c1b, c1c, c1d, c1h⟩ | ⟨c1a, c1b, c1h⟩
 ·
  have z1 := cs18 H1.o 0 rfl; go_upto_region 3 with fail
  clear z1; have H2 := kq H1.o.drew; refine wp_region_held_drew (S := (fun w' => w'.cell? ⟨B, 0, none⟩ = some (.int .i64 2) ∧ w'.cell? ⟨B, 1, none⟩ = some (.int .i64 sa) ∧ w'.cell? ⟨B, 2, none⟩ = some (.int .i64 sb) ∧ w'.cell? ⟨B, 3, none⟩ = some (.bool bar) ∧ w'.cell? ⟨B, 4, none⟩ = some (.int .i64 ep) ∧ w'.cell? ⟨B, 5, none⟩ = some (.int .i64 ef) ∧ w'.cell? ⟨B, 6, none⟩ = some (.int .i64 kw) ∧ w'.cell? ⟨B, 7, none⟩ = some (.int .i64 kh) ∧ w'.cell? ⟨B, 8, none⟩ = some (.slice wa wn wc) ∧ w'.cell? ⟨B, 9, none⟩ = some (.slice ra rn rc) ∧ w'.cell? ⟨B, 10, none⟩ = some (.slice ca cn cc) ∧ w'.cell? ⟨B, 11, none⟩ = some (.int .i64 sh) ∧ w'.cell? ⟨B, 12, none⟩ = some (.int .i64 sh2) ∧ w'.cell? ⟨B, 13, none⟩ = some (.slice xa xn xc) ∧ w'.cell? ⟨B, 14, none⟩ = some (.slice ya yn yc) ∧ w'.cell? ⟨B, 15, none⟩ = some (.int .i64 bins) ∧ w'.cell? ⟨B, 16, none⟩ = some (.slice oa on oc) ∧ w'.cell? ⟨B, 17, none⟩ = some (.int .i64 mx))) (by kernel_rfl) ⟨H2.o.cell 0 rfl 0 rfl, H2.o.cell 0 rfl 1 rfl, H2.o.cell 0 rfl 2 rfl, H2.o.cell 0 rfl 3 rfl, H2.o.cell 0 rfl 4 rfl, H2.o.cell 0 rfl 5 rfl, H2.o.cell 0 rfl 6 rfl, H2.o.cell 0 rfl 7 rfl, H2.o.cell 0 rfl 8 rfl, H2.o.cell 0 rfl 9 rfl, H2.o.cell 0 rfl 10 rfl, H2.o.cell 0 rfl 11 rfl, H2.o.cell 0 rfl 12 rfl, H2.o.cell 0 rfl 13 rfl, H2.o.cell 0 rfl 14 rfl, H2.o.cell 0 rfl 15 rfl, H2.o.cell 0 rfl 16 rfl, H2.o.cell 0 rfl 17 rfl⟩ (fun hHeld => ?_); generalize w1.drew = k1 at *; refine tk 0 ?_; refine tk 1 ?_; refine tk 2 ?_; refine tk 3 ?_; refine tk 4 ?_; refine tk 5 ?_; refine tk 6 ?_; refine tk 7 ?_; refine tk 8 ?_; refine tk 9 ?_; refine tk 10 ?_; refine tk 11 ?_; refine wpAnyH_done (by kernel_rfl) ?_ _; try clear hHeld
  have z1 := cs18 H2.o 0 rfl; go_wp2_with fail
  clear z1; refine (redged_any _ _).mono ?_; rintro e w1 ⟨rfl, hsw⟩; have hsw2 : k1 = w1 := by first | exact hsw | exact hsw.symm
  clear hsw; subst hsw2; rw [show edOk 2 = true from by decide]
  rcases eqZ kw 0 with ⟨c2a, c2b, c2c, c2d, c2h⟩ | ⟨c2a, c2b, c2h⟩
  ·
   rcases eqZ kh 0 with ⟨c3a, c3b, c3c, c3d, c3h⟩ | ⟨c3a, c3b, c3h⟩
   ·
    by_cases c4 : (0 : Int) < wn
    ·
     have z1 := cs18 H2.o 0 rfl; go_wp2_with fail
     clear z1; have he0 := HEB.o; try simp only [dQ] at he0
     go_ret
     exact ⟨ret_b (by unfold sfOk; have := c1h.o; have := c2h.o; have := c3h.o; exact (decide_eq_false (by omega)).symm), H2.o.bl⟩
    by_cases c4 : (0 : Int) < xn
    ·
     have z1 := cs18 H2.o 0 rfl; go_wp2_with fail
     clear z1; have he0 := HEB.o; try simp only [dQ] at he0
     go_ret
     exact ⟨ret_b (by unfold sfOk; have := c1h.o; have := c2h.o; have := c3h.o; exact (decide_eq_false (by omega)).symm), H2.o.bl⟩
    by_cases c4 : (0 : Int) < yn
    ·
     have z1 := cs18 H2.o 0 rfl; go_wp2_with fail
     clear z1; have he0 := HEB.o; try simp only [dQ] at he0
     go_ret
     exact ⟨ret_b (by unfold sfOk; have := c1h.o; have := c2h.o; have := c3h.o; exact (decide_eq_false (by omega)).symm), H2.o.bl⟩
    have z1 := cs18 H2.o 0 rfl; go_wp2_with fail
    clear z1; refine (redged_any _ _).mono ?_; rintro e w1 ⟨rfl, hsw⟩; have hsw2 : k1 = w1 := by first | exact hsw | exact hsw.symm
    clear hsw; subst hsw2; rw [show edOk 2 = true from by decide]
    rcases eqZ bins 0 with ⟨c4a, c4b, c4c, c4d, c4h⟩ | ⟨c4a, c4b, c4h⟩
    ·
     by_cases c5 : (0 : Int) < on
     ·
      have z1 := cs18 H2.o 0 rfl; go_wp2_with fail
      clear z1; have he0 := HEB.o; try simp only [dQ] at he0
      go_ret
      exact ⟨ret_b (by unfold sfOk; have := c1h.o; have := c2h.o; have := c3h.o; have := c4h.o; exact (decide_eq_false (by omega)).symm), H2.o.bl⟩
     have z1 := cs18 H2.o 0 rfl; go_wp2_with fail
     clear z1; have he0 := HEB.o; try simp only [dQ] at he0
     go_ret
     exact ⟨ret_b (by unfold sfOk; have := c1h.o; have := c2h.o; have := c3h.o; have := c4h.o; exact (decide_eq_true (by omega)).symm), H2.o.bl⟩
    have z1 := cs18 H2.o 0 rfl; go_wp2_with fail
    clear z1; have he0 := HEB.o; try simp only [dQ] at he0
    go_ret
    exact ⟨ret_b (by unfold sfOk; have := c1h.o; have := c2h.o; have := c3h.o; have := c4h.o; exact (decide_eq_false (by omega)).symm), H2.o.bl⟩
   have z1 := cs18 H2.o 0 rfl; go_wp2_with fail
   clear z1; have he0 := HEB.o; try simp only [dQ] at he0
   go_ret
   exact ⟨ret_b (by unfold sfOk; have := c1h.o; have := c2h.o; have := c3h.o; exact (decide_eq_false (by omega)).symm), H2.o.bl⟩
  have z1 := cs18 H2.o 0 rfl; go_wp2_with fail
  clear z1; have he0 := HEB.o; try simp only [dQ] at he0
  go_ret
  exact ⟨ret_b (by unfold sfOk; have := c1h.o; have := c2h.o; exact (decide_eq_false (by omega)).symm), H2.o.bl⟩
 have z1 := cs18 H1.o 0 rfl; go_wp2_with fail
 clear z1; have he0 := HEB.o; try simp only [dQ] at he0
 go_ret
 exact ⟨ret_b (by unfold sfOk; have := c1h.o; exact (decide_eq_false (by omega)).symm), H1.o.bl⟩

set_option maxRecDepth 100000 in
set_option maxHeartbeats 6400000 in
theorem rsfields_3 (sa sb : Int) (bar : Bool) (ep ef kw kh : Int) (wa : Option Addr) (wn wc : Nat) (ra : Option Addr) (rn rc : Nat) (ca : Option Addr) (cn cc : Nat) (sh sh2 : Int) (xa : Option Addr) (xn xc : Nat) (ya : Option Addr) (yn yc : Nat) (bins : Int) (oa : Option Addr) (on oc : Nat) (mx : Int) (W : World) : Calls Tryz.prog 44 #[.agg #[.int .i64 3, .int .i64 sa, .int .i64 sb, .bool bar, .int .i64 ep, .int .i64 ef, .int .i64 kw, .int .i64 kh, .slice wa wn wc, .slice ra rn rc, .slice ca cn cc, .int .i64 sh, .int .i64 sh2, .slice xa xn xc, .slice ya yn yc, .int .i64 bins, .slice oa on oc, .int .i64 mx]] W fun e w' => e = .returned (.bool (sfOk 3 sb ep ef kw kh wn rn cn sh sh2 xn yn bins on mx)) ∧ Below W.heap.size W w' := by
 obtain ⟨B, hB⟩ : ∃ B, W.heap.size = B := ⟨_, rfl⟩; have HI0 := kq (St.init hB); obtain ⟨eb, heb⟩ := nK (decide (ep = 0 ∧ ef = 0)); have HEB := kq heb
 go_enter Tryz.func44, Tryz.ntmps44
 go_upto_region 1 with fail
 have H1 := kq (HI0.o.alloc #[.int .i64 3, .int .i64 sa, .int .i64 sb, .bool bar, .int .i64 ep, .int .i64 ef, .int .i64 kw, .int .i64 kh, .slice wa wn wc, .slice ra rn rc, .slice ca cn cc, .int .i64 sh, .int .i64 sh2, .slice xa xn xc, .slice ya yn yc, .int .i64 bins, .slice oa on oc, .int .i64 mx] 34 hB); first | refine gK H1 ?_ | refine gL H1 ?_ | refine gC H1 ?_
 clear H1; intro w1 H1
 rcases eqZ sb (-1) with ⟨c1a, c1b, c1c, c1d, c1h⟩ | ⟨c1a, c1b, c1h⟩
 ·
  have z1 := cs18 H1.o 0 rfl; go_upto_region 3 with fail
  clear z1; have H2 := kq H1.o.drew; refine wp_region_held_drew (S := (fun w' => w'.cell? ⟨B, 0, none⟩ = some (.int .i64 3) ∧ w'.cell? ⟨B, 1, none⟩ = some (.int .i64 sa) ∧ w'.cell? ⟨B, 2, none⟩ = some (.int .i64 sb) ∧ w'.cell? ⟨B, 3, none⟩ = some (.bool bar) ∧ w'.cell? ⟨B, 4, none⟩ = some (.int .i64 ep) ∧ w'.cell? ⟨B, 5, none⟩ = some (.int .i64 ef) ∧ w'.cell? ⟨B, 6, none⟩ = some (.int .i64 kw) ∧ w'.cell? ⟨B, 7, none⟩ = some (.int .i64 kh) ∧ w'.cell? ⟨B, 8, none⟩ = some (.slice wa wn wc) ∧ w'.cell? ⟨B, 9, none⟩ = some (.slice ra rn rc) ∧ w'.cell? ⟨B, 10, none⟩ = some (.slice ca cn cc) ∧ w'.cell? ⟨B, 11, none⟩ = some (.int .i64 sh) ∧ w'.cell? ⟨B, 12, none⟩ = some (.int .i64 sh2) ∧ w'.cell? ⟨B, 13, none⟩ = some (.slice xa xn xc) ∧ w'.cell? ⟨B, 14, none⟩ = some (.slice ya yn yc) ∧ w'.cell? ⟨B, 15, none⟩ = some (.int .i64 bins) ∧ w'.cell? ⟨B, 16, none⟩ = some (.slice oa on oc) ∧ w'.cell? ⟨B, 17, none⟩ = some (.int .i64 mx))) (by kernel_rfl) ⟨H2.o.cell 0 rfl 0 rfl, H2.o.cell 0 rfl 1 rfl, H2.o.cell 0 rfl 2 rfl, H2.o.cell 0 rfl 3 rfl, H2.o.cell 0 rfl 4 rfl, H2.o.cell 0 rfl 5 rfl, H2.o.cell 0 rfl 6 rfl, H2.o.cell 0 rfl 7 rfl, H2.o.cell 0 rfl 8 rfl, H2.o.cell 0 rfl 9 rfl, H2.o.cell 0 rfl 10 rfl, H2.o.cell 0 rfl 11 rfl, H2.o.cell 0 rfl 12 rfl, H2.o.cell 0 rfl 13 rfl, H2.o.cell 0 rfl 14 rfl, H2.o.cell 0 rfl 15 rfl, H2.o.cell 0 rfl 16 rfl, H2.o.cell 0 rfl 17 rfl⟩ (fun hHeld => ?_); generalize w1.drew = k1 at *; refine tk 0 ?_; refine tk 1 ?_; refine tk 2 ?_; refine tk 3 ?_; refine tk 4 ?_; refine tk 5 ?_; refine tk 6 ?_; refine tk 7 ?_; refine tk 8 ?_; refine tk 9 ?_; refine tk 10 ?_; refine tk 11 ?_; refine wpAnyH_done (by kernel_rfl) ?_ _; try clear hHeld
  have z1 := cs18 H2.o 0 rfl; go_wp2_with fail
  clear z1; refine (redged_any _ _).mono ?_; rintro e w1 ⟨rfl, hsw⟩; have hsw2 : k1 = w1 := by first | exact hsw | exact hsw.symm
  clear hsw; subst hsw2; rw [show edOk 3 = true from by decide]
  rcases eqZ kw 0 with ⟨c2a, c2b, c2c, c2d, c2h⟩ | ⟨c2a, c2b, c2h⟩
  ·
   rcases eqZ kh 0 with ⟨c3a, c3b, c3c, c3d, c3h⟩ | ⟨c3a, c3b, c3h⟩
   ·
    by_cases c4 : (0 : Int) < wn
    ·
     have z1 := cs18 H2.o 0 rfl; go_wp2_with fail
     clear z1; have he0 := HEB.o; try simp only [dQ] at he0
     go_ret
     exact ⟨ret_b (by unfold sfOk; have := c1h.o; have := c2h.o; have := c3h.o; exact (decide_eq_false (by omega)).symm), H2.o.bl⟩
    by_cases c4 : (0 : Int) < rn
    ·
     have z1 := cs18 H2.o 0 rfl; go_wp2_with fail
     clear z1; have he0 := HEB.o; try simp only [dQ] at he0
     go_ret
     exact ⟨ret_b (by unfold sfOk; have := c1h.o; have := c2h.o; have := c3h.o; exact (decide_eq_false (by omega)).symm), H2.o.bl⟩
    by_cases c4 : (0 : Int) < cn
    ·
     have z1 := cs18 H2.o 0 rfl; go_wp2_with fail
     clear z1; have he0 := HEB.o; try simp only [dQ] at he0
     go_ret
     exact ⟨ret_b (by unfold sfOk; have := c1h.o; have := c2h.o; have := c3h.o; exact (decide_eq_false (by omega)).symm), H2.o.bl⟩
    have z1 := cs18 H2.o 0 rfl; go_wp2_with fail
    clear z1; refine (redged_any _ _).mono ?_; rintro e w1 ⟨rfl, hsw⟩; have hsw2 : k1 = w1 := by first | exact hsw | exact hsw.symm
    clear hsw; subst hsw2; rw [show edOk 3 = true from by decide]
    rcases eqZ bins 0 with ⟨c4a, c4b, c4c, c4d, c4h⟩ | ⟨c4a, c4b, c4h⟩
    ·
     by_cases c5 : (0 : Int) < on
     ·
      have z1 := cs18 H2.o 0 rfl; go_wp2_with fail
      clear z1; have he0 := HEB.o; try simp only [dQ] at he0
      go_ret
      exact ⟨ret_b (by unfold sfOk; have := c1h.o; have := c2h.o; have := c3h.o; have := c4h.o; exact (decide_eq_false (by omega)).symm), H2.o.bl⟩
     have z1 := cs18 H2.o 0 rfl; go_wp2_with fail
     clear z1; have he0 := HEB.o; try simp only [dQ] at he0
     go_ret
     exact ⟨ret_b (by unfold sfOk; have := c1h.o; have := c2h.o; have := c3h.o; have := c4h.o; exact (decide_eq_true (by omega)).symm), H2.o.bl⟩
    have z1 := cs18 H2.o 0 rfl; go_wp2_with fail
    clear z1; have he0 := HEB.o; try simp only [dQ] at he0
    go_ret
    exact ⟨ret_b (by unfold sfOk; have := c1h.o; have := c2h.o; have := c3h.o; have := c4h.o; exact (decide_eq_false (by omega)).symm), H2.o.bl⟩
   have z1 := cs18 H2.o 0 rfl; go_wp2_with fail
   clear z1; have he0 := HEB.o; try simp only [dQ] at he0
   go_ret
   exact ⟨ret_b (by unfold sfOk; have := c1h.o; have := c2h.o; have := c3h.o; exact (decide_eq_false (by omega)).symm), H2.o.bl⟩
  have z1 := cs18 H2.o 0 rfl; go_wp2_with fail
  clear z1; have he0 := HEB.o; try simp only [dQ] at he0
  go_ret
  exact ⟨ret_b (by unfold sfOk; have := c1h.o; have := c2h.o; exact (decide_eq_false (by omega)).symm), H2.o.bl⟩
 have z1 := cs18 H1.o 0 rfl; go_wp2_with fail
 clear z1; have he0 := HEB.o; try simp only [dQ] at he0
 go_ret
 exact ⟨ret_b (by unfold sfOk; have := c1h.o; exact (decide_eq_false (by omega)).symm), H1.o.bl⟩

set_option maxRecDepth 100000 in
set_option maxHeartbeats 6400000 in
theorem rsfields_4 (sa sb : Int) (bar : Bool) (ep ef kw kh : Int) (wa : Option Addr) (wn wc : Nat) (ra : Option Addr) (rn rc : Nat) (ca : Option Addr) (cn cc : Nat) (sh sh2 : Int) (xa : Option Addr) (xn xc : Nat) (ya : Option Addr) (yn yc : Nat) (bins : Int) (oa : Option Addr) (on oc : Nat) (mx : Int) (W : World) : Calls Tryz.prog 44 #[.agg #[.int .i64 4, .int .i64 sa, .int .i64 sb, .bool bar, .int .i64 ep, .int .i64 ef, .int .i64 kw, .int .i64 kh, .slice wa wn wc, .slice ra rn rc, .slice ca cn cc, .int .i64 sh, .int .i64 sh2, .slice xa xn xc, .slice ya yn yc, .int .i64 bins, .slice oa on oc, .int .i64 mx]] W fun e w' => e = .returned (.bool (sfOk 4 sb ep ef kw kh wn rn cn sh sh2 xn yn bins on mx)) ∧ Below W.heap.size W w' := by
 obtain ⟨B, hB⟩ : ∃ B, W.heap.size = B := ⟨_, rfl⟩; have HI0 := kq (St.init hB); obtain ⟨eb, heb⟩ := nK (decide (ep = 0 ∧ ef = 0)); have HEB := kq heb
 go_enter Tryz.func44, Tryz.ntmps44
 go_upto_region 1 with fail
 have H1 := kq (HI0.o.alloc #[.int .i64 4, .int .i64 sa, .int .i64 sb, .bool bar, .int .i64 ep, .int .i64 ef, .int .i64 kw, .int .i64 kh, .slice wa wn wc, .slice ra rn rc, .slice ca cn cc, .int .i64 sh, .int .i64 sh2, .slice xa xn xc, .slice ya yn yc, .int .i64 bins, .slice oa on oc, .int .i64 mx] 34 hB); first | refine gK H1 ?_ | refine gL H1 ?_ | refine gC H1 ?_
 clear H1; intro w1 H1
 rcases eqZ sb (-1) with ⟨c1a, c1b, c1c, c1d, c1h⟩ | ⟨c1a, c1b, c1h⟩
 ·
  have z1 := cs18 H1.o 0 rfl; go_upto_region 3 with fail
  clear z1; have H2 := kq H1.o.drew; refine wp_region_held_drew (S := (fun w' => w'.cell? ⟨B, 0, none⟩ = some (.int .i64 4) ∧ w'.cell? ⟨B, 1, none⟩ = some (.int .i64 sa) ∧ w'.cell? ⟨B, 2, none⟩ = some (.int .i64 sb) ∧ w'.cell? ⟨B, 3, none⟩ = some (.bool bar) ∧ w'.cell? ⟨B, 4, none⟩ = some (.int .i64 ep) ∧ w'.cell? ⟨B, 5, none⟩ = some (.int .i64 ef) ∧ w'.cell? ⟨B, 6, none⟩ = some (.int .i64 kw) ∧ w'.cell? ⟨B, 7, none⟩ = some (.int .i64 kh) ∧ w'.cell? ⟨B, 8, none⟩ = some (.slice wa wn wc) ∧ w'.cell? ⟨B, 9, none⟩ = some (.slice ra rn rc) ∧ w'.cell? ⟨B, 10, none⟩ = some (.slice ca cn cc) ∧ w'.cell? ⟨B, 11, none⟩ = some (.int .i64 sh) ∧ w'.cell? ⟨B, 12, none⟩ = some (.int .i64 sh2) ∧ w'.cell? ⟨B, 13, none⟩ = some (.slice xa xn xc) ∧ w'.cell? ⟨B, 14, none⟩ = some (.slice ya yn yc) ∧ w'.cell? ⟨B, 15, none⟩ = some (.int .i64 bins) ∧ w'.cell? ⟨B, 16, none⟩ = some (.slice oa on oc) ∧ w'.cell? ⟨B, 17, none⟩ = some (.int .i64 mx))) (by kernel_rfl) ⟨H2.o.cell 0 rfl 0 rfl, H2.o.cell 0 rfl 1 rfl, H2.o.cell 0 rfl 2 rfl, H2.o.cell 0 rfl 3 rfl, H2.o.cell 0 rfl 4 rfl, H2.o.cell 0 rfl 5 rfl, H2.o.cell 0 rfl 6 rfl, H2.o.cell 0 rfl 7 rfl, H2.o.cell 0 rfl 8 rfl, H2.o.cell 0 rfl 9 rfl, H2.o.cell 0 rfl 10 rfl, H2.o.cell 0 rfl 11 rfl, H2.o.cell 0 rfl 12 rfl, H2.o.cell 0 rfl 13 rfl, H2.o.cell 0 rfl 14 rfl, H2.o.cell 0 rfl 15 rfl, H2.o.cell 0 rfl 16 rfl, H2.o.cell 0 rfl 17 rfl⟩ (fun hHeld => ?_); generalize w1.drew = k1 at *; refine tk 0 ?_; refine tk 1 ?_; refine tk 2 ?_; refine tk 3 ?_; refine tk 4 ?_; refine tk 5 ?_; refine tk 6 ?_; refine tk 7 ?_; refine tk 8 ?_; refine tk 9 ?_; refine tk 10 ?_; refine tk 11 ?_; refine wpAnyH_done (by kernel_rfl) ?_ _; try clear hHeld
  have z1 := cs18 H2.o 0 rfl; go_wp2_with fail
  clear z1; refine (redged_any _ _).mono ?_; rintro e w1 ⟨rfl, hsw⟩; have hsw2 : k1 = w1 := by first | exact hsw | exact hsw.symm
  clear hsw; subst hsw2; rw [show edOk 4 = false from by decide]; cases eb; rotate_left
  ·
   rcases eqZ kw 0 with ⟨c2a, c2b, c2c, c2d, c2h⟩ | ⟨c2a, c2b, c2h⟩
   ·
    rcases eqZ kh 0 with ⟨c3a, c3b, c3c, c3d, c3h⟩ | ⟨c3a, c3b, c3h⟩
    ·
     by_cases c4 : (0 : Int) < wn
     ·
      have z1 := cs18 H2.o 0 rfl; go_wp2_with fail
      clear z1; have he0 := HEB.o; try simp only [dQ] at he0
      go_ret
      exact ⟨ret_b (by unfold sfOk; have := c1h.o; have := c2h.o; have := c3h.o; exact (decide_eq_false (by omega)).symm), H2.o.bl⟩
     by_cases c4 : (0 : Int) < rn
     ·
      have z1 := cs18 H2.o 0 rfl; go_wp2_with fail
      clear z1; have he0 := HEB.o; try simp only [dQ] at he0
      go_ret
      exact ⟨ret_b (by unfold sfOk; have := c1h.o; have := c2h.o; have := c3h.o; exact (decide_eq_false (by omega)).symm), H2.o.bl⟩
     by_cases c4 : (0 : Int) < cn
     ·
      have z1 := cs18 H2.o 0 rfl; go_wp2_with fail
      clear z1; have he0 := HEB.o; try simp only [dQ] at he0
      go_ret
      exact ⟨ret_b (by unfold sfOk; have := c1h.o; have := c2h.o; have := c3h.o; exact (decide_eq_false (by omega)).symm), H2.o.bl⟩
     by_cases c4 : (0 : Int) < xn
     ·
      have z1 := cs18 H2.o 0 rfl; go_wp2_with fail
      clear z1; have he0 := HEB.o; try simp only [dQ] at he0
      go_ret
      exact ⟨ret_b (by unfold sfOk; have := c1h.o; have := c2h.o; have := c3h.o; exact (decide_eq_false (by omega)).symm), H2.o.bl⟩
     by_cases c4 : (0 : Int) < yn
     ·
      have z1 := cs18 H2.o 0 rfl; go_wp2_with fail
      clear z1; have he0 := HEB.o; try simp only [dQ] at he0
      go_ret
      exact ⟨ret_b (by unfold sfOk; have := c1h.o; have := c2h.o; have := c3h.o; exact (decide_eq_false (by omega)).symm), H2.o.bl⟩
     have z1 := cs18 H2.o 0 rfl; go_wp2_with fail
     clear z1; refine (redged_any _ _).mono ?_; rintro e w1 ⟨rfl, hsw⟩; have hsw2 : k1 = w1 := by first | exact hsw | exact hsw.symm
     clear hsw; subst hsw2; rw [show edOk 4 = false from by decide]
     rcases eqZ sh 0 with ⟨c4a, c4b, c4c, c4d, c4h⟩ | ⟨c4a, c4b, c4h⟩
     ·
      rcases eqZ sh2 0 with ⟨c5a, c5b, c5c, c5d, c5h⟩ | ⟨c5a, c5b, c5h⟩
      ·
       by_cases c6 : (0 : Int) < on
       ·
        have z1 := cs18 H2.o 0 rfl; go_wp2_with fail
        clear z1; have he0 := HEB.o; try simp only [dQ] at he0
        go_ret
        exact ⟨ret_b (by unfold sfOk; have := c1h.o; have := c2h.o; have := c3h.o; have := c4h.o; have := c5h.o; exact (decide_eq_false (by omega)).symm), H2.o.bl⟩
       rcases eqZ mx 0 with ⟨c6a, c6b, c6c, c6d, c6h⟩ | ⟨c6a, c6b, c6h⟩
       ·
        have z1 := cs18 H2.o 0 rfl; go_wp2_with fail
        clear z1; have he0 := HEB.o; try simp only [dQ] at he0
        go_ret
        exact ⟨ret_b (by unfold sfOk; have := c1h.o; have := c2h.o; have := c3h.o; have := c4h.o; have := c5h.o; have := c6h.o; exact (decide_eq_true (by omega)).symm), H2.o.bl⟩
       have z1 := cs18 H2.o 0 rfl; go_wp2_with fail
       clear z1; have he0 := HEB.o; try simp only [dQ] at he0
       go_ret
       exact ⟨ret_b (by unfold sfOk; have := c1h.o; have := c2h.o; have := c3h.o; have := c4h.o; have := c5h.o; have := c6h.o; exact (decide_eq_false (by omega)).symm), H2.o.bl⟩
      have z1 := cs18 H2.o 0 rfl; go_wp2_with fail
      clear z1; have he0 := HEB.o; try simp only [dQ] at he0
      go_ret
      exact ⟨ret_b (by unfold sfOk; have := c1h.o; have := c2h.o; have := c3h.o; have := c4h.o; have := c5h.o; exact (decide_eq_false (by omega)).symm), H2.o.bl⟩
     have z1 := cs18 H2.o 0 rfl; go_wp2_with fail
     clear z1; have he0 := HEB.o; try simp only [dQ] at he0
     go_ret
     exact ⟨ret_b (by unfold sfOk; have := c1h.o; have := c2h.o; have := c3h.o; have := c4h.o; exact (decide_eq_false (by omega)).symm), H2.o.bl⟩
    have z1 := cs18 H2.o 0 rfl; go_wp2_with fail
    clear z1; have he0 := HEB.o; try simp only [dQ] at he0
    go_ret
    exact ⟨ret_b (by unfold sfOk; have := c1h.o; have := c2h.o; have := c3h.o; exact (decide_eq_false (by omega)).symm), H2.o.bl⟩
   have z1 := cs18 H2.o 0 rfl; go_wp2_with fail
   clear z1; have he0 := HEB.o; try simp only [dQ] at he0
   go_ret
   exact ⟨ret_b (by unfold sfOk; have := c1h.o; have := c2h.o; exact (decide_eq_false (by omega)).symm), H2.o.bl⟩
  have z1 := cs18 H2.o 0 rfl; go_wp2_with fail
  clear z1; have he0 := HEB.o; try simp only [dQ] at he0
  go_ret
  exact ⟨ret_b (by unfold sfOk; have := c1h.o; exact (decide_eq_false (by omega)).symm), H2.o.bl⟩
 have z1 := cs18 H1.o 0 rfl; go_wp2_with fail
 clear z1; have he0 := HEB.o; try simp only [dQ] at he0
 go_ret
 exact ⟨ret_b (by unfold sfOk; have := c1h.o; exact (decide_eq_false (by omega)).symm), H1.o.bl⟩

set_option maxRecDepth 100000 in
set_option maxHeartbeats 6400000 in
theorem rsfields_5 (sa sb : Int) (bar : Bool) (ep ef kw kh : Int) (wa : Option Addr) (wn wc : Nat) (ra : Option Addr) (rn rc : Nat) (ca : Option Addr) (cn cc : Nat) (sh sh2 : Int) (xa : Option Addr) (xn xc : Nat) (ya : Option Addr) (yn yc : Nat) (bins : Int) (oa : Option Addr) (on oc : Nat) (mx : Int) (W : World) : Calls Tryz.prog 44 #[.agg #[.int .i64 5, .int .i64 sa, .int .i64 sb, .bool bar, .int .i64 ep, .int .i64 ef, .int .i64 kw, .int .i64 kh, .slice wa wn wc, .slice ra rn rc, .slice ca cn cc, .int .i64 sh, .int .i64 sh2, .slice xa xn xc, .slice ya yn yc, .int .i64 bins, .slice oa on oc, .int .i64 mx]] W fun e w' => e = .returned (.bool (sfOk 5 sb ep ef kw kh wn rn cn sh sh2 xn yn bins on mx)) ∧ Below W.heap.size W w' := by
 obtain ⟨B, hB⟩ : ∃ B, W.heap.size = B := ⟨_, rfl⟩; have HI0 := kq (St.init hB); obtain ⟨eb, heb⟩ := nK (decide (ep = 0 ∧ ef = 0)); have HEB := kq heb
 go_enter Tryz.func44, Tryz.ntmps44
 go_upto_region 1 with fail
 have H1 := kq (HI0.o.alloc #[.int .i64 5, .int .i64 sa, .int .i64 sb, .bool bar, .int .i64 ep, .int .i64 ef, .int .i64 kw, .int .i64 kh, .slice wa wn wc, .slice ra rn rc, .slice ca cn cc, .int .i64 sh, .int .i64 sh2, .slice xa xn xc, .slice ya yn yc, .int .i64 bins, .slice oa on oc, .int .i64 mx] 34 hB); first | refine gK H1 ?_ | refine gL H1 ?_ | refine gC H1 ?_
 clear H1; intro w1 H1
 rcases eqZ sb (-1) with ⟨c1a, c1b, c1c, c1d, c1h⟩ | ⟨c1a, c1b, c1h⟩
 ·
  have z1 := cs18 H1.o 0 rfl; go_upto_region 3 with fail
  clear z1; have H2 := kq H1.o.drew; refine wp_region_held_drew (S := (fun w' => w'.cell? ⟨B, 0, none⟩ = some (.int .i64 5) ∧ w'.cell? ⟨B, 1, none⟩ = some (.int .i64 sa) ∧ w'.cell? ⟨B, 2, none⟩ = some (.int .i64 sb) ∧ w'.cell? ⟨B, 3, none⟩ = some (.bool bar) ∧ w'.cell? ⟨B, 4, none⟩ = some (.int .i64 ep) ∧ w'.cell? ⟨B, 5, none⟩ = some (.int .i64 ef) ∧ w'.cell? ⟨B, 6, none⟩ = some (.int .i64 kw) ∧ w'.cell? ⟨B, 7, none⟩ = some (.int .i64 kh) ∧ w'.cell? ⟨B, 8, none⟩ = some (.slice wa wn wc) ∧ w'.cell? ⟨B, 9, none⟩ = some (.slice ra rn rc) ∧ w'.cell? ⟨B, 10, none⟩ = some (.slice ca cn cc) ∧ w'.cell? ⟨B, 11, none⟩ = some (.int .i64 sh) ∧ w'.cell? ⟨B, 12, none⟩ = some (.int .i64 sh2) ∧ w'.cell? ⟨B, 13, none⟩ = some (.slice xa xn xc) ∧ w'.cell? ⟨B, 14, none⟩ = some (.slice ya yn yc) ∧ w'.cell? ⟨B, 15, none⟩ = some (.int .i64 bins) ∧ w'.cell? ⟨B, 16, none⟩ = some (.slice oa on oc) ∧ w'.cell? ⟨B, 17, none⟩ = some (.int .i64 mx))) (by kernel_rfl) ⟨H2.o.cell 0 rfl 0 rfl, H2.o.cell 0 rfl 1 rfl, H2.o.cell 0 rfl 2 rfl, H2.o.cell 0 rfl 3 rfl, H2.o.cell 0 rfl 4 rfl, H2.o.cell 0 rfl 5 rfl, H2.o.cell 0 rfl 6 rfl, H2.o.cell 0 rfl 7 rfl, H2.o.cell 0 rfl 8 rfl, H2.o.cell 0 rfl 9 rfl, H2.o.cell 0 rfl 10 rfl, H2.o.cell 0 rfl 11 rfl, H2.o.cell 0 rfl 12 rfl, H2.o.cell 0 rfl 13 rfl, H2.o.cell 0 rfl 14 rfl, H2.o.cell 0 rfl 15 rfl, H2.o.cell 0 rfl 16 rfl, H2.o.cell 0 rfl 17 rfl⟩ (fun hHeld => ?_); generalize w1.drew = k1 at *; refine tk 0 ?_; refine tk 1 ?_; refine tk 2 ?_; refine tk 3 ?_; refine tk 4 ?_; refine tk 5 ?_; refine tk 6 ?_; refine tk 7 ?_; refine tk 8 ?_; refine tk 9 ?_; refine tk 10 ?_; refine tk 11 ?_; refine wpAnyH_done (by kernel_rfl) ?_ _; try clear hHeld
  have z1 := cs18 H2.o 0 rfl; go_wp2_with fail
  clear z1; refine (redged_any _ _).mono ?_; rintro e w1 ⟨rfl, hsw⟩; have hsw2 : k1 = w1 := by first | exact hsw | exact hsw.symm
  clear hsw; subst hsw2; rw [show edOk 5 = false from by decide]; cases eb; rotate_left
  ·
   rcases eqZ kw 0 with ⟨c2a, c2b, c2c, c2d, c2h⟩ | ⟨c2a, c2b, c2h⟩
   ·
    rcases eqZ kh 0 with ⟨c3a, c3b, c3c, c3d, c3h⟩ | ⟨c3a, c3b, c3h⟩
    ·
     by_cases c4 : (0 : Int) < wn
     ·
      have z1 := cs18 H2.o 0 rfl; go_wp2_with fail
      clear z1; have he0 := HEB.o; try simp only [dQ] at he0
      go_ret
      exact ⟨ret_b (by unfold sfOk; have := c1h.o; have := c2h.o; have := c3h.o; exact (decide_eq_false (by omega)).symm), H2.o.bl⟩
     by_cases c4 : (0 : Int) < rn
     ·
      have z1 := cs18 H2.o 0 rfl; go_wp2_with fail
      clear z1; have he0 := HEB.o; try simp only [dQ] at he0
      go_ret
      exact ⟨ret_b (by unfold sfOk; have := c1h.o; have := c2h.o; have := c3h.o; exact (decide_eq_false (by omega)).symm), H2.o.bl⟩
     by_cases c4 : (0 : Int) < cn
     ·
      have z1 := cs18 H2.o 0 rfl; go_wp2_with fail
      clear z1; have he0 := HEB.o; try simp only [dQ] at he0
      go_ret
      exact ⟨ret_b (by unfold sfOk; have := c1h.o; have := c2h.o; have := c3h.o; exact (decide_eq_false (by omega)).symm), H2.o.bl⟩
     by_cases c4 : (0 : Int) < xn
     ·
      have z1 := cs18 H2.o 0 rfl; go_wp2_with fail
      clear z1; have he0 := HEB.o; try simp only [dQ] at he0
      go_ret
      exact ⟨ret_b (by unfold sfOk; have := c1h.o; have := c2h.o; have := c3h.o; exact (decide_eq_false (by omega)).symm), H2.o.bl⟩
     by_cases c4 : (0 : Int) < yn
     ·
      have z1 := cs18 H2.o 0 rfl; go_wp2_with fail
      clear z1; have he0 := HEB.o; try simp only [dQ] at he0
      go_ret
      exact ⟨ret_b (by unfold sfOk; have := c1h.o; have := c2h.o; have := c3h.o; exact (decide_eq_false (by omega)).symm), H2.o.bl⟩
     have z1 := cs18 H2.o 0 rfl; go_wp2_with fail
     clear z1; refine (redged_any _ _).mono ?_; rintro e w1 ⟨rfl, hsw⟩; have hsw2 : k1 = w1 := by first | exact hsw | exact hsw.symm
     clear hsw; subst hsw2; rw [show edOk 5 = false from by decide]
     rcases eqZ sh 0 with ⟨c4a, c4b, c4c, c4d, c4h⟩ | ⟨c4a, c4b, c4h⟩
     ·
      rcases eqZ sh2 0 with ⟨c5a, c5b, c5c, c5d, c5h⟩ | ⟨c5a, c5b, c5h⟩
      ·
       rcases eqZ bins 0 with ⟨c6a, c6b, c6c, c6d, c6h⟩ | ⟨c6a, c6b, c6h⟩
       ·
        by_cases c7 : (0 : Int) < on
        ·
         have z1 := cs18 H2.o 0 rfl; go_wp2_with fail
         clear z1; have he0 := HEB.o; try simp only [dQ] at he0
         go_ret
         exact ⟨ret_b (by unfold sfOk; have := c1h.o; have := c2h.o; have := c3h.o; have := c4h.o; have := c5h.o; have := c6h.o; exact (decide_eq_false (by omega)).symm), H2.o.bl⟩
        rcases eqZ mx 0 with ⟨c7a, c7b, c7c, c7d, c7h⟩ | ⟨c7a, c7b, c7h⟩
        ·
         have z1 := cs18 H2.o 0 rfl; go_wp2_with fail
         clear z1; have he0 := HEB.o; try simp only [dQ] at he0
         go_ret
         exact ⟨ret_b (by unfold sfOk; have := c1h.o; have := c2h.o; have := c3h.o; have := c4h.o; have := c5h.o; have := c6h.o; have := c7h.o; exact (decide_eq_true (by omega)).symm), H2.o.bl⟩
        have z1 := cs18 H2.o 0 rfl; go_wp2_with fail
        clear z1; have he0 := HEB.o; try simp only [dQ] at he0
        go_ret
        exact ⟨ret_b (by unfold sfOk; have := c1h.o; have := c2h.o; have := c3h.o; have := c4h.o; have := c5h.o; have := c6h.o; have := c7h.o; exact (decide_eq_false (by omega)).symm), H2.o.bl⟩
       have z1 := cs18 H2.o 0 rfl; go_wp2_with fail
       clear z1; have he0 := HEB.o; try simp only [dQ] at he0
       go_ret
       exact ⟨ret_b (by unfold sfOk; have := c1h.o; have := c2h.o; have := c3h.o; have := c4h.o; have := c5h.o; have := c6h.o; exact (decide_eq_false (by omega)).symm), H2.o.bl⟩
      have z1 := cs18 H2.o 0 rfl; go_wp2_with fail
      clear z1; have he0 := HEB.o; try simp only [dQ] at he0
      go_ret
      exact ⟨ret_b (by unfold sfOk; have := c1h.o; have := c2h.o; have := c3h.o; have := c4h.o; have := c5h.o; exact (decide_eq_false (by omega)).symm), H2.o.bl⟩
     have z1 := cs18 H2.o 0 rfl; go_wp2_with fail
     clear z1; have he0 := HEB.o; try simp only [dQ] at he0
     go_ret
     exact ⟨ret_b (by unfold sfOk; have := c1h.o; have := c2h.o; have := c3h.o; have := c4h.o; exact (decide_eq_false (by omega)).symm), H2.o.bl⟩
    have z1 := cs18 H2.o 0 rfl; go_wp2_with fail
    clear z1; have he0 := HEB.o; try simp only [dQ] at he0
    go_ret
    exact ⟨ret_b (by unfold sfOk; have := c1h.o; have := c2h.o; have := c3h.o; exact (decide_eq_false (by omega)).symm), H2.o.bl⟩
   have z1 := cs18 H2.o 0 rfl; go_wp2_with fail
   clear z1; have he0 := HEB.o; try simp only [dQ] at he0
   go_ret
   exact ⟨ret_b (by unfold sfOk; have := c1h.o; have := c2h.o; exact (decide_eq_false (by omega)).symm), H2.o.bl⟩
  have z1 := cs18 H2.o 0 rfl; go_wp2_with fail
  clear z1; have he0 := HEB.o; try simp only [dQ] at he0
  go_ret
  exact ⟨ret_b (by unfold sfOk; have := c1h.o; exact (decide_eq_false (by omega)).symm), H2.o.bl⟩
 have z1 := cs18 H1.o 0 rfl; go_wp2_with fail
 clear z1; have he0 := HEB.o; try simp only [dQ] at he0
 go_ret
 exact ⟨ret_b (by unfold sfOk; have := c1h.o; exact (decide_eq_false (by omega)).symm), H1.o.bl⟩

set_option maxRecDepth 100000 in
set_option maxHeartbeats 6400000 in
theorem rsfields_6 (sa sb : Int) (bar : Bool) (ep ef kw kh : Int) (wa : Option Addr) (wn wc : Nat) (ra : Option Addr) (rn rc : Nat) (ca : Option Addr) (cn cc : Nat) (sh sh2 : Int) (xa : Option Addr) (xn xc : Nat) (ya : Option Addr) (yn yc : Nat) (bins : Int) (oa : Option Addr) (on oc : Nat) (mx : Int) (W : World) : Calls Tryz.prog 44 #[.agg #[.int .i64 6, .int .i64 sa, .int .i64 sb, .bool bar, .int .i64 ep, .int .i64 ef, .int .i64 kw, .int .i64 kh, .slice wa wn wc, .slice ra rn rc, .slice ca cn cc, .int .i64 sh, .int .i64 sh2, .slice xa xn xc, .slice ya yn yc, .int .i64 bins, .slice oa on oc, .int .i64 mx]] W fun e w' => e = .returned (.bool (sfOk 6 sb ep ef kw kh wn rn cn sh sh2 xn yn bins on mx)) ∧ Below W.heap.size W w' := by
 obtain ⟨B, hB⟩ : ∃ B, W.heap.size = B := ⟨_, rfl⟩; have HI0 := kq (St.init hB); obtain ⟨eb, heb⟩ := nK (decide (ep = 0 ∧ ef = 0)); have HEB := kq heb
 go_enter Tryz.func44, Tryz.ntmps44
 go_upto_region 1 with fail
 have H1 := kq (HI0.o.alloc #[.int .i64 6, .int .i64 sa, .int .i64 sb, .bool bar, .int .i64 ep, .int .i64 ef, .int .i64 kw, .int .i64 kh, .slice wa wn wc, .slice ra rn rc, .slice ca cn cc, .int .i64 sh, .int .i64 sh2, .slice xa xn xc, .slice ya yn yc, .int .i64 bins, .slice oa on oc, .int .i64 mx] 34 hB); first | refine gK H1 ?_ | refine gL H1 ?_ | refine gC H1 ?_
 clear H1; intro w1 H1; have z1 := cs18 H1.o 0 rfl; go_upto_region 3 with fail
 clear z1; have H2 := kq H1.o.drew; refine wp_region_held_drew (S := (fun w' => w'.cell? ⟨B, 0, none⟩ = some (.int .i64 6) ∧ w'.cell? ⟨B, 1, none⟩ = some (.int .i64 sa) ∧ w'.cell? ⟨B, 2, none⟩ = some (.int .i64 sb) ∧ w'.cell? ⟨B, 3, none⟩ = some (.bool bar) ∧ w'.cell? ⟨B, 4, none⟩ = some (.int .i64 ep) ∧ w'.cell? ⟨B, 5, none⟩ = some (.int .i64 ef) ∧ w'.cell? ⟨B, 6, none⟩ = some (.int .i64 kw) ∧ w'.cell? ⟨B, 7, none⟩ = some (.int .i64 kh) ∧ w'.cell? ⟨B, 8, none⟩ = some (.slice wa wn wc) ∧ w'.cell? ⟨B, 9, none⟩ = some (.slice ra rn rc) ∧ w'.cell? ⟨B, 10, none⟩ = some (.slice ca cn cc) ∧ w'.cell? ⟨B, 11, none⟩ = some (.int .i64 sh) ∧ w'.cell? ⟨B, 12, none⟩ = some (.int .i64 sh2) ∧ w'.cell? ⟨B, 13, none⟩ = some (.slice xa xn xc) ∧ w'.cell? ⟨B, 14, none⟩ = some (.slice ya yn yc) ∧ w'.cell? ⟨B, 15, none⟩ = some (.int .i64 bins) ∧ w'.cell? ⟨B, 16, none⟩ = some (.slice oa on oc) ∧ w'.cell? ⟨B, 17, none⟩ = some (.int .i64 mx))) (by kernel_rfl) ⟨H2.o.cell 0 rfl 0 rfl, H2.o.cell 0 rfl 1 rfl, H2.o.cell 0 rfl 2 rfl, H2.o.cell 0 rfl 3 rfl, H2.o.cell 0 rfl 4 rfl, H2.o.cell 0 rfl 5 rfl, H2.o.cell 0 rfl 6 rfl, H2.o.cell 0 rfl 7 rfl, H2.o.cell 0 rfl 8 rfl, H2.o.cell 0 rfl 9 rfl, H2.o.cell 0 rfl 10 rfl, H2.o.cell 0 rfl 11 rfl, H2.o.cell 0 rfl 12 rfl, H2.o.cell 0 rfl 13 rfl, H2.o.cell 0 rfl 14 rfl, H2.o.cell 0 rfl 15 rfl, H2.o.cell 0 rfl 16 rfl, H2.o.cell 0 rfl 17 rfl⟩ (fun hHeld => ?_); generalize w1.drew = k1 at *; refine tk 0 ?_; refine tk 1 ?_; refine tk 2 ?_; refine tk 3 ?_; refine tk 4 ?_; refine tk 5 ?_; refine tk 6 ?_; refine tk 7 ?_; refine tk 8 ?_; refine tk 9 ?_; refine tk 10 ?_; refine tk 11 ?_; refine wpAnyH_done (by kernel_rfl) ?_ _; try clear hHeld
 have z1 := cs18 H2.o 0 rfl; go_wp2_with fail
 clear z1; refine (redged_any _ _).mono ?_; rintro e w1 ⟨rfl, hsw⟩; have hsw2 : k1 = w1 := by first | exact hsw | exact hsw.symm
 clear hsw; subst hsw2; rw [show edOk 6 = false from by decide]; cases eb; rotate_left
 ·
  rcases eqZ kw 0 with ⟨c1a, c1b, c1c, c1d, c1h⟩ | ⟨c1a, c1b, c1h⟩
  ·
   rcases eqZ kh 0 with ⟨c2a, c2b, c2c, c2d, c2h⟩ | ⟨c2a, c2b, c2h⟩
   ·
    by_cases c3 : (0 : Int) < wn
    ·
     have z1 := cs18 H2.o 0 rfl; go_wp2_with fail
     clear z1; have he0 := HEB.o; try simp only [dQ] at he0
     go_ret
     exact ⟨ret_b (by unfold sfOk; have := c1h.o; have := c2h.o; exact (decide_eq_false (by omega)).symm), H2.o.bl⟩
    by_cases c3 : (0 : Int) < rn
    ·
     have z1 := cs18 H2.o 0 rfl; go_wp2_with fail
     clear z1; have he0 := HEB.o; try simp only [dQ] at he0
     go_ret
     exact ⟨ret_b (by unfold sfOk; have := c1h.o; have := c2h.o; exact (decide_eq_false (by omega)).symm), H2.o.bl⟩
    by_cases c3 : (0 : Int) < cn
    ·
     have z1 := cs18 H2.o 0 rfl; go_wp2_with fail
     clear z1; have he0 := HEB.o; try simp only [dQ] at he0
     go_ret
     exact ⟨ret_b (by unfold sfOk; have := c1h.o; have := c2h.o; exact (decide_eq_false (by omega)).symm), H2.o.bl⟩
    by_cases c3 : (0 : Int) < xn
    ·
     have z1 := cs18 H2.o 0 rfl; go_wp2_with fail
     clear z1; have he0 := HEB.o; try simp only [dQ] at he0
     go_ret
     exact ⟨ret_b (by unfold sfOk; have := c1h.o; have := c2h.o; exact (decide_eq_false (by omega)).symm), H2.o.bl⟩
    by_cases c3 : (0 : Int) < yn
    ·
     have z1 := cs18 H2.o 0 rfl; go_wp2_with fail
     clear z1; have he0 := HEB.o; try simp only [dQ] at he0
     go_ret
     exact ⟨ret_b (by unfold sfOk; have := c1h.o; have := c2h.o; exact (decide_eq_false (by omega)).symm), H2.o.bl⟩
    have z1 := cs18 H2.o 0 rfl; go_wp2_with fail
    clear z1; refine (redged_any _ _).mono ?_; rintro e w1 ⟨rfl, hsw⟩; have hsw2 : k1 = w1 := by first | exact hsw | exact hsw.symm
    clear hsw; subst hsw2; rw [show edOk 6 = false from by decide]
    rcases eqZ sh 0 with ⟨c3a, c3b, c3c, c3d, c3h⟩ | ⟨c3a, c3b, c3h⟩
    ·
     rcases eqZ sh2 0 with ⟨c4a, c4b, c4c, c4d, c4h⟩ | ⟨c4a, c4b, c4h⟩
     ·
      rcases eqZ bins 0 with ⟨c5a, c5b, c5c, c5d, c5h⟩ | ⟨c5a, c5b, c5h⟩
      ·
       have z1 := cs18 H2.o 0 rfl; go_wp2_with fail
       clear z1; have he0 := HEB.o; try simp only [dQ] at he0
       go_ret
       exact ⟨ret_b (by unfold sfOk; have := c1h.o; have := c2h.o; have := c3h.o; have := c4h.o; have := c5h.o; exact (decide_eq_true (by omega)).symm), H2.o.bl⟩
      have z1 := cs18 H2.o 0 rfl; go_wp2_with fail
      clear z1; have he0 := HEB.o; try simp only [dQ] at he0
      go_ret
      exact ⟨ret_b (by unfold sfOk; have := c1h.o; have := c2h.o; have := c3h.o; have := c4h.o; have := c5h.o; exact (decide_eq_false (by omega)).symm), H2.o.bl⟩
     have z1 := cs18 H2.o 0 rfl; go_wp2_with fail
     clear z1; have he0 := HEB.o; try simp only [dQ] at he0
     go_ret
     exact ⟨ret_b (by unfold sfOk; have := c1h.o; have := c2h.o; have := c3h.o; have := c4h.o; exact (decide_eq_false (by omega)).symm), H2.o.bl⟩
    have z1 := cs18 H2.o 0 rfl; go_wp2_with fail
    clear z1; have he0 := HEB.o; try simp only [dQ] at he0
    go_ret
    exact ⟨ret_b (by unfold sfOk; have := c1h.o; have := c2h.o; have := c3h.o; exact (decide_eq_false (by omega)).symm), H2.o.bl⟩
   have z1 := cs18 H2.o 0 rfl; go_wp2_with fail
   clear z1; have he0 := HEB.o; try simp only [dQ] at he0
   go_ret
   exact ⟨ret_b (by unfold sfOk; have := c1h.o; have := c2h.o; exact (decide_eq_false (by omega)).symm), H2.o.bl⟩
  have z1 := cs18 H2.o 0 rfl; go_wp2_with fail
  clear z1; have he0 := HEB.o; try simp only [dQ] at he0
  go_ret
  exact ⟨ret_b (by unfold sfOk; have := c1h.o; exact (decide_eq_false (by omega)).symm), H2.o.bl⟩
 have z1 := cs18 H2.o 0 rfl; go_wp2_with fail
 clear z1; have he0 := HEB.o; try simp only [dQ] at he0
 go_ret
 exact ⟨ret_b (by unfold sfOk; exact (decide_eq_false (by omega)).symm), H2.o.bl⟩

set_option maxRecDepth 100000 in
set_option maxHeartbeats 6400000 in
theorem rsfields_any (kd sa sb : Int) (bar : Bool) (ep ef kw kh : Int) (wa : Option Addr) (wn wc : Nat) (ra : Option Addr) (rn rc : Nat) (ca : Option Addr) (cn cc : Nat) (sh sh2 : Int) (xa : Option Addr) (xn xc : Nat) (ya : Option Addr) (yn yc : Nat) (bins : Int) (oa : Option Addr) (on oc : Nat) (mx : Int) (W : World) : Calls Tryz.prog 44 #[.agg #[.int .i64 kd, .int .i64 sa, .int .i64 sb, .bool bar, .int .i64 ep, .int .i64 ef, .int .i64 kw, .int .i64 kh, .slice wa wn wc, .slice ra rn rc, .slice ca cn cc, .int .i64 sh, .int .i64 sh2, .slice xa xn xc, .slice ya yn yc, .int .i64 bins, .slice oa on oc, .int .i64 mx]] W fun e w' => e = .returned (.bool (sfOk kd sb ep ef kw kh wn rn cn sh sh2 xn yn bins on mx)) ∧ Below W.heap.size W w' := by
 by_cases hk : 1 ≤ kd ∧ kd ≤ 6
 ·
  rcases (show kd = 1 ∨ kd = 2 ∨ kd = 3 ∨ kd = 4 ∨ kd = 5 ∨ kd = 6 by omega) with rfl | rfl | rfl | rfl | rfl | rfl
  ·
   exact rsfields_1 _ _ _ _ _ _ _ _ _ _ _ _ _ _ _ _ _ _ _ _ _ _ _ _ _ _ _ _ _ _
  ·
   exact rsfields_2 _ _ _ _ _ _ _ _ _ _ _ _ _ _ _ _ _ _ _ _ _ _ _ _ _ _ _ _ _ _
  ·
   exact rsfields_3 _ _ _ _ _ _ _ _ _ _ _ _ _ _ _ _ _ _ _ _ _ _ _ _ _ _ _ _ _ _
  ·
   exact rsfields_4 _ _ _ _ _ _ _ _ _ _ _ _ _ _ _ _ _ _ _ _ _ _ _ _ _ _ _ _ _ _
  ·
   exact rsfields_5 _ _ _ _ _ _ _ _ _ _ _ _ _ _ _ _ _ _ _ _ _ _ _ _ _ _ _ _ _ _
  exact rsfields_6 _ _ _ _ _ _ _ _ _ _ _ _ _ _ _ _ _ _ _ _ _ _ _ _ _ _ _ _ _ _
 obtain ⟨B, hB⟩ : ∃ B, W.heap.size = B := ⟨_, rfl⟩; have HI0 := kq (St.init hB)
 go_enter Tryz.func44, Tryz.ntmps44
 go_upto_region 1 with fail
 have H1 := kq (HI0.o.alloc #[.int .i64 kd, .int .i64 sa, .int .i64 sb, .bool bar, .int .i64 ep, .int .i64 ef, .int .i64 kw, .int .i64 kh, .slice wa wn wc, .slice ra rn rc, .slice ca cn cc, .int .i64 sh, .int .i64 sh2, .slice xa xn xc, .slice ya yn yc, .int .i64 bins, .slice oa on oc, .int .i64 mx] 34 hB); first | refine gK H1 ?_ | refine gL H1 ?_ | refine gC H1 ?_
 clear H1; intro w1 H1; by_cases c1 : (kd : Int) < 1
 ·
  have z1 := cs18 H1.o 0 rfl; go_wp2_with fail
  clear z1
  go_ret
  exact ⟨ret_b (by unfold sfOk; exact (decide_eq_false (by omega)).symm), H1.o.bl⟩
 by_cases c1 : (6 : Int) < kd
 ·
  have z1 := cs18 H1.o 0 rfl; go_wp2_with fail
  clear z1
  go_ret
  exact ⟨ret_b (by unfold sfOk; exact (decide_eq_false (by omega)).symm), H1.o.bl⟩
 exfalso; omega
end Go.Proofs.YteejjnhlfgjlaaaGreat
