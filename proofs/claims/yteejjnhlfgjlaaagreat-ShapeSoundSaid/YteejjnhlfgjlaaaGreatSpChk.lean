/-
 Contracts: the errors of row and column kernels, in the program and in the reference.
-/
import Derived.Test.YteejjnhlfgjlaaaGreatSpPlain
import Derived.Test.YteejjnhlfgjlaaaGreatKN
namespace Go.Proofs.YteejjnhlfgjlaaaGreat
open Go.RowKit
attribute [local go_sem ↓] Go.wp_at_zero Go.wp_at_succ
set_option linter.unusedVariables false
set_option linter.unusedSimpArgs false

theorem idx2_0 (x y : Value) (w : World) : (Instr.index 99 (.agg #[x, y]) (.int .i64 0)).run Tryz.prog w = .ok x w := by
 have h := Tryz.underlying99; simp [Instr.index, run_underlying h, asIntOf, go_sem]
theorem idx2_1 (x y : Value) (w : World) : (Instr.index 99 (.agg #[x, y]) (.int .i64 1)).run Tryz.prog w = .ok y w := by
 have h := Tryz.underlying99; simp [Instr.index, run_underlying h, asIntOf, go_sem]
attribute [local go_sem ↓] idx2_0 idx2_1

set_option maxRecDepth 100000 in
set_option maxHeartbeats 6400000 in
theorem scheck_any (mx shift shift2 out : Int) (ra : Option Addr) (rn rc : Nat) (row : List Int) (ca : Option Addr) (cn cc : Nat) (col : List Int) (W : World) (hr : Slc W ra rn rc row) (hc : Slc W ca cn cc col) :
  Calls Tryz.prog 40 #[.int .i64 mx, .slice ra rn rc, .slice ca cn cc, .int .i64 shift, .int .i64 shift2, .int .i64 out] W fun e w' => e = .returned (.int .i64 (spCode mx row col shift shift2 out)) ∧ Below W.heap.size W w' := by
 obtain ⟨B, hB⟩ : ∃ B, W.heap.size = B := ⟨_, rfl⟩; have HI0 := kq (St.init hB); have HR := kq hr; have HC := kq hc; have HLR := kq hr.len; have HLC := kq hc.len; have rnm : (rn : Int) ≤ 9223372036854775807 := by have := hr.nc; have := hr.cap; omega
 have cnm : (cn : Int) ≤ 9223372036854775807 := by have := hc.nc; have := hc.cap; omega
 clear hr hc
 go_enter Tryz.func40, Tryz.ntmps40
 go_wp2_with fail
 go_loopw [24] (fun i wr => ∃ j : Nat, j ≤ 2 ∧ i = .int .i64 j ∧ (1 ≤ j → 1 ≤ rn ∧ rn ≤ 9) ∧ (2 ≤ j → 1 ≤ cn ∧ cn ≤ 9) ∧ St B W [] [] wr) (fun i _ => 2 - (intOf i).toNat)
 case atStart => exact ⟨0, by omega, rfl, fun h => by omega, fun h => by omega, HI0.o⟩
 case round =>
  obtain ⟨j, hj, rfl, hrn, hcn, hst⟩ := hrel; obtain ⟨u1, rfl⟩ : ∃ u1 : World, u1 = wr := ⟨_, rfl⟩; have H2 := kq hst; clear hst; have HRN := kq hrn; have HCN := kq hcn; clear hrn hcn
  rcases (show j = 0 ∨ j = 1 ∨ j = 2 by omega) with hj' | hj' | hj'
  ·
   subst hj'
   rcases eqZ rn 0 with ⟨c3a, c3b, c3c, c3d, c3h⟩ | ⟨c3a, c3b, c3h⟩
   ·
    go_wp2_with fail
    go_ret
    exact ⟨ret_i (by unfold spCode; rw [if_pos (by intro hc; have h1 := hc.1; have h2 := hc.2; simp only [sideOk, decide_eq_true_eq] at h1 h2; rw [HLR.o] at h1; rw [HLC.o] at h2; have := c3h.o; omega)]), H2.o.bl⟩
   by_cases c4 : (9 : Int) < rn
   ·
    go_wp2_with fail
    go_ret
    exact ⟨ret_i (by unfold spCode; rw [if_pos (by intro hc; have h1 := hc.1; have h2 := hc.2; simp only [sideOk, decide_eq_true_eq] at h1 h2; rw [HLR.o] at h1; rw [HLC.o] at h2; have := c3h.o; omega)]), H2.o.bl⟩
   go_wp2_with fail
   go_roundw
   case rel => exact ⟨1, by omega, by first | rfl | go_num, fun h => by first | exact HRN.o (by omega) | (have := c3h.o; omega), fun h => by first | (exfalso; omega) | (have := c3h.o; omega), H2.o⟩
   case measure => first | (simp [intOf]; omega) | (simp [intOf]; done)
  ·
   subst hj'
   rcases eqZ cn 0 with ⟨c5a, c5b, c5c, c5d, c5h⟩ | ⟨c5a, c5b, c5h⟩
   ·
    go_wp2_with fail
    go_ret
    exact ⟨ret_i (by unfold spCode; rw [if_pos (by intro hc; have h1 := hc.1; have h2 := hc.2; simp only [sideOk, decide_eq_true_eq] at h1 h2; rw [HLR.o] at h1; rw [HLC.o] at h2; have := c5h.o; omega)]), H2.o.bl⟩
   by_cases c6 : (9 : Int) < cn
   ·
    go_wp2_with fail
    go_ret
    exact ⟨ret_i (by unfold spCode; rw [if_pos (by intro hc; have h1 := hc.1; have h2 := hc.2; simp only [sideOk, decide_eq_true_eq] at h1 h2; rw [HLR.o] at h1; rw [HLC.o] at h2; have := c5h.o; omega)]), H2.o.bl⟩
   go_wp2_with fail
   go_roundw
   case rel => exact ⟨2, by omega, by first | rfl | go_num, fun h => by first | exact HRN.o (by omega) | (have := c5h.o; omega), fun h => by first | (exfalso; omega) | (have := c5h.o; omega), H2.o⟩
   case measure => first | (simp [intOf]; omega) | (simp [intOf]; done)
  subst hj'; obtain ⟨rn1, rn2⟩ := HRN.o (by omega); obtain ⟨cn1, cn2⟩ := HCN.o (by omega); go_wp2_with fail
  refine (fweights_any _ _ _ _ _ (H2.o.old HR.o)).mono ?_; rintro e w7 ⟨rfl, hb⟩; have H8 := kq (H2.o.call hb); clear hb; obtain ⟨k9, HNk9⟩ := nQ (wCode row); rw [HNk9.o]
  rcases eqZ k9 0 with ⟨c1a, c1b, c1c, c1d, c1h⟩ | ⟨c1a, c1b, c1h⟩
  ·
   go_wp2_with fail
   refine (fweights_any _ _ _ _ _ (H8.o.old HC.o)).mono ?_; rintro e w1 ⟨rfl, hb⟩; have H1 := kq (H8.o.call hb); clear hb; obtain ⟨k1, HNk1⟩ := nQ (wCode col); rw [HNk1.o]
   rcases eqZ k1 0 with ⟨c2a, c2b, c2c, c2d, c2h⟩ | ⟨c2a, c2b, c2h⟩
   ·
    by_cases c7 : (shift : Int) < 0
    ·
     go_wp2_with fail
     go_ret
     exact ⟨ret_i (by unfold spCode; rw [if_neg (fun hc => hc ⟨by simp only [sideOk, decide_eq_true_eq]; rw [HLR.o]; omega, by simp only [sideOk, decide_eq_true_eq]; rw [HLC.o]; omega⟩), if_pos (by intro hc; have h1 := hc.2.2.1; have h2 := hc.2.2.2; simp only [shOk, decide_eq_true_eq] at h1 h2; omega)]), H1.o.bl⟩
    by_cases c16 : (24 : Int) < shift
    ·
     go_wp2_with fail
     go_ret
     exact ⟨ret_i (by unfold spCode; rw [if_neg (fun hc => hc ⟨by simp only [sideOk, decide_eq_true_eq]; rw [HLR.o]; omega, by simp only [sideOk, decide_eq_true_eq]; rw [HLC.o]; omega⟩), if_pos (by intro hc; have h1 := hc.2.2.1; have h2 := hc.2.2.2; simp only [shOk, decide_eq_true_eq] at h1 h2; omega)]), H1.o.bl⟩
    by_cases c7 : (shift2 : Int) < 0
    ·
     go_wp2_with fail
     go_ret
     exact ⟨ret_i (by unfold spCode; rw [if_neg (fun hc => hc ⟨by simp only [sideOk, decide_eq_true_eq]; rw [HLR.o]; omega, by simp only [sideOk, decide_eq_true_eq]; rw [HLC.o]; omega⟩), if_pos (by intro hc; have h1 := hc.2.2.1; have h2 := hc.2.2.2; simp only [shOk, decide_eq_true_eq] at h1 h2; omega)]), H1.o.bl⟩
    by_cases c7 : (24 : Int) < shift2
    ·
     go_wp2_with fail
     go_ret
     exact ⟨ret_i (by unfold spCode; rw [if_neg (fun hc => hc ⟨by simp only [sideOk, decide_eq_true_eq]; rw [HLR.o]; omega, by simp only [sideOk, decide_eq_true_eq]; rw [HLC.o]; omega⟩), if_pos (by intro hc; have h1 := hc.2.2.1; have h2 := hc.2.2.2; simp only [shOk, decide_eq_true_eq] at h1 h2; omega)]), H1.o.bl⟩
    by_cases c7 : (mx : Int) < 1
    ·
     go_wp2_with fail
     go_ret
     exact ⟨ret_i (by unfold spCode; rw [if_neg (fun hc => hc ⟨by simp only [sideOk, decide_eq_true_eq]; rw [HLR.o]; omega, by simp only [sideOk, decide_eq_true_eq]; rw [HLC.o]; omega⟩), if_neg (fun hc => hc ⟨(wCode_zero.1 (by rw [HNk9.o]; have := c1h.o; have := c2h.o; omega)).2.2, (wCode_zero.1 (by rw [HNk1.o]; have := c1h.o; have := c2h.o; omega)).2.2, by simp only [shOk, decide_eq_true_eq]; omega, by simp only [shOk, decide_eq_true_eq]; omega⟩), if_pos (by simp only [valOk, decide_eq_true_eq]; omega)]), H1.o.bl⟩
    by_cases c7 : (4294967296 : Int) < mx
    ·
     go_wp2_with fail
     go_ret
     exact ⟨ret_i (by unfold spCode; rw [if_neg (fun hc => hc ⟨by simp only [sideOk, decide_eq_true_eq]; rw [HLR.o]; omega, by simp only [sideOk, decide_eq_true_eq]; rw [HLC.o]; omega⟩), if_neg (fun hc => hc ⟨(wCode_zero.1 (by rw [HNk9.o]; have := c1h.o; have := c2h.o; omega)).2.2, (wCode_zero.1 (by rw [HNk1.o]; have := c1h.o; have := c2h.o; omega)).2.2, by simp only [shOk, decide_eq_true_eq]; omega, by simp only [shOk, decide_eq_true_eq]; omega⟩), if_pos (by simp only [valOk, decide_eq_true_eq]; omega)]), H1.o.bl⟩
    by_cases c7 : (out : Int) < 1
    ·
     go_wp2_with fail
     go_ret
     exact ⟨ret_i (by unfold spCode; rw [if_neg (fun hc => hc ⟨by simp only [sideOk, decide_eq_true_eq]; rw [HLR.o]; omega, by simp only [sideOk, decide_eq_true_eq]; rw [HLC.o]; omega⟩), if_neg (fun hc => hc ⟨(wCode_zero.1 (by rw [HNk9.o]; have := c1h.o; have := c2h.o; omega)).2.2, (wCode_zero.1 (by rw [HNk1.o]; have := c1h.o; have := c2h.o; omega)).2.2, by simp only [shOk, decide_eq_true_eq]; omega, by simp only [shOk, decide_eq_true_eq]; omega⟩), if_pos (by simp only [valOk, decide_eq_true_eq]; omega)]), H1.o.bl⟩
    by_cases c7 : (4294967296 : Int) < out
    ·
     go_wp2_with fail
     go_ret
     exact ⟨ret_i (by unfold spCode; rw [if_neg (fun hc => hc ⟨by simp only [sideOk, decide_eq_true_eq]; rw [HLR.o]; omega, by simp only [sideOk, decide_eq_true_eq]; rw [HLC.o]; omega⟩), if_neg (fun hc => hc ⟨(wCode_zero.1 (by rw [HNk9.o]; have := c1h.o; have := c2h.o; omega)).2.2, (wCode_zero.1 (by rw [HNk1.o]; have := c1h.o; have := c2h.o; omega)).2.2, by simp only [shOk, decide_eq_true_eq]; omega, by simp only [shOk, decide_eq_true_eq]; omega⟩), if_pos (by simp only [valOk, decide_eq_true_eq]; omega)]), H1.o.bl⟩
    go_wp2_with fail
    refine (fbounds_any _ _ _ _ _ _ _ (H1.o.old HR.o)).mono ?_; rintro e w1 ⟨rfl, hb⟩; have H3 := kq (H1.o.call hb); clear hb; obtain ⟨x1, HNx1⟩ := nQ (bdLo row 0 mx); rw [HNx1.o]; obtain ⟨x2, HNx2⟩ := nQ (bdHi row 0 mx); rw [HNx2.o]; obtain ⟨b1, HNb1⟩ := nQ (bdOk row 0 mx); rw [HNb1.o]; cases b1; rotate_left
    ·
     go_wp2_with fail
     refine (fspan_any _ _ _ _).mono ?_; rintro e w2 ⟨rfl, hsw⟩; have hsw2 : w1 = w2 := by first | exact hsw | exact hsw.symm
     clear hsw; subst hsw2; obtain ⟨s1, HNs1⟩ := nQ (shV x1 shift); rw [HNs1.o]; obtain ⟨s2, HNs2⟩ := nQ (shV x2 shift); rw [HNs2.o]; go_wp2_with fail
     refine (fbounds_any _ _ _ _ _ _ _ (H3.o.old HC.o)).mono ?_; rintro e w1 ⟨rfl, hb⟩; have H32 := kq (H3.o.call hb); clear hb; obtain ⟨x1, HNx3⟩ := nQ (bdLo col s1 s2); rw [HNx3.o]; obtain ⟨x1, HNx3⟩ := nQ (bdHi col s1 s2); rw [HNx3.o]; obtain ⟨b1, HNb2⟩ := nQ (bdOk col s1 s2); rw [HNb2.o]; cases b1; rotate_left
     ·
      go_wp2_with fail
      go_ret
      exact ⟨ret_i (by unfold spCode; rw [if_neg (fun hc => hc ⟨by simp only [sideOk, decide_eq_true_eq]; rw [HLR.o]; omega, by simp only [sideOk, decide_eq_true_eq]; rw [HLC.o]; omega⟩), if_neg (fun hc => hc ⟨(wCode_zero.1 (by rw [HNk9.o]; have := c1h.o; have := c2h.o; omega)).2.2, (wCode_zero.1 (by rw [HNk1.o]; have := c1h.o; have := c2h.o; omega)).2.2, by simp only [shOk, decide_eq_true_eq]; omega, by simp only [shOk, decide_eq_true_eq]; omega⟩), if_neg (by simp only [valOk, decide_eq_true_eq]; omega), if_neg (by rw [HNb1.o]; simp), if_neg (by rw [← (bdOk_yes HNb1.o).1, ← (bdOk_yes HNb1.o).2, HNx1.o, HNx2.o, HNs1.o, HNs2.o, HNb2.o]; simp)]), H32.o.bl⟩
     go_wp2_with fail
     go_ret
     exact ⟨ret_i (by unfold spCode; rw [if_neg (fun hc => hc ⟨by simp only [sideOk, decide_eq_true_eq]; rw [HLR.o]; omega, by simp only [sideOk, decide_eq_true_eq]; rw [HLC.o]; omega⟩), if_neg (fun hc => hc ⟨(wCode_zero.1 (by rw [HNk9.o]; have := c1h.o; have := c2h.o; omega)).2.2, (wCode_zero.1 (by rw [HNk1.o]; have := c1h.o; have := c2h.o; omega)).2.2, by simp only [shOk, decide_eq_true_eq]; omega, by simp only [shOk, decide_eq_true_eq]; omega⟩), if_neg (by simp only [valOk, decide_eq_true_eq]; omega), if_neg (by rw [HNb1.o]; simp), if_pos (by rw [← (bdOk_yes HNb1.o).1, ← (bdOk_yes HNb1.o).2, HNx1.o, HNx2.o, HNs1.o, HNs2.o, HNb2.o])]), H32.o.bl⟩
    go_wp2_with fail
    go_ret
    exact ⟨ret_i (by unfold spCode; rw [if_neg (fun hc => hc ⟨by simp only [sideOk, decide_eq_true_eq]; rw [HLR.o]; omega, by simp only [sideOk, decide_eq_true_eq]; rw [HLC.o]; omega⟩), if_neg (fun hc => hc ⟨(wCode_zero.1 (by rw [HNk9.o]; have := c1h.o; have := c2h.o; omega)).2.2, (wCode_zero.1 (by rw [HNk1.o]; have := c1h.o; have := c2h.o; omega)).2.2, by simp only [shOk, decide_eq_true_eq]; omega, by simp only [shOk, decide_eq_true_eq]; omega⟩), if_neg (by simp only [valOk, decide_eq_true_eq]; omega), if_pos HNb1.o]), H3.o.bl⟩
   go_wp2_with fail
   go_ret
   exact ⟨ret_i (by unfold spCode; rw [if_neg (fun hc => hc ⟨by simp only [sideOk, decide_eq_true_eq]; rw [HLR.o]; omega, by simp only [sideOk, decide_eq_true_eq]; rw [HLC.o]; omega⟩), if_pos (by intro hc; have h2 := wCode_zero.2 ⟨by rw [HLC.o]; omega, by rw [HLC.o]; omega, hc.2.1⟩; rw [HNk1.o] at h2; have := c1h.o; have := c2h.o; omega)]), H1.o.bl⟩
  go_wp2_with fail
  go_ret
  exact ⟨ret_i (by unfold spCode; rw [if_neg (fun hc => hc ⟨by simp only [sideOk, decide_eq_true_eq]; rw [HLR.o]; omega, by simp only [sideOk, decide_eq_true_eq]; rw [HLC.o]; omega⟩), if_pos (by intro hc; have h2 := wCode_zero.2 ⟨by rw [HLR.o]; omega, by rw [HLR.o]; omega, hc.1⟩; rw [HNk9.o] at h2; have := c1h.o; omega)]), H8.o.bl⟩

set_option maxRecDepth 100000 in
set_option maxHeartbeats 6400000 in
theorem rscheck_any (mx shift shift2 out : Int) (ra : Option Addr) (rn rc : Nat) (row : List Int) (ca : Option Addr) (cn cc : Nat) (col : List Int) (W : World) (hr : Slc W ra rn rc row) (hc : Slc W ca cn cc col) :
  Calls Tryz.prog 68 #[.int .i64 mx, .slice ra rn rc, .slice ca cn cc, .int .i64 shift, .int .i64 shift2, .int .i64 out] W fun e w' => e = .returned (.int .i64 (spCode mx row col shift shift2 out)) ∧ Below W.heap.size W w' := by
 obtain ⟨B, hB⟩ : ∃ B, W.heap.size = B := ⟨_, rfl⟩; have HI0 := kq (St.init hB); have HR := kq hr; have HC := kq hc; have HLR := kq hr.len; have HLC := kq hc.len; have rnm : (rn : Int) ≤ 9223372036854775807 := by have := hr.nc; have := hr.cap; omega
 have cnm : (cn : Int) ≤ 9223372036854775807 := by have := hc.nc; have := hc.cap; omega
 clear hr hc
 go_enter Tryz.func68, Tryz.ntmps68
 go_wp2_with fail
 refine (rside_any _ _).mono ?_; rintro e w1 ⟨rfl, hsw⟩; have hsw2 : W = w1 := by first | exact hsw | exact hsw.symm
 clear hsw; subst hsw2; obtain ⟨b1, HNb1⟩ := nQ (sideOk (rn : Int)); rw [HNb1.o]; cases b1; rotate_left
 ·
  go_wp2_with fail
  refine (rside_any _ _).mono ?_; rintro e w1 ⟨rfl, hsw⟩; have hsw2 : W = w1 := by first | exact hsw | exact hsw.symm
  clear hsw; subst hsw2; obtain ⟨b1, HNb2⟩ := nQ (sideOk (cn : Int)); rw [HNb2.o]; cases b1; rotate_left
  ·
   go_wp2_with fail
   refine (rareweights_any _ _ _ _ _ (HI0.o.old HR.o)).mono ?_; rintro e w1 ⟨rfl, hb⟩; have H1 := kq (HI0.o.call hb); clear hb; obtain ⟨b1, HNb3⟩ := nQ (wAll row); rw [HNb3.o]; cases b1; rotate_left
   ·
    go_wp2_with fail
    refine (rareweights_any _ _ _ _ _ (H1.o.old HC.o)).mono ?_; rintro e w1 ⟨rfl, hb⟩; have H2 := kq (H1.o.call hb); clear hb; obtain ⟨b1, HNb4⟩ := nQ (wAll col); rw [HNb4.o]; cases b1; rotate_left
    ·
     go_wp2_with fail
     refine (rshok_any _ _).mono ?_; rintro e w2 ⟨rfl, hsw⟩; have hsw2 : w1 = w2 := by first | exact hsw | exact hsw.symm
     clear hsw; subst hsw2; obtain ⟨b1, HNb5⟩ := nQ (shOk shift); rw [HNb5.o]; cases b1; rotate_left
     ·
      go_wp2_with fail
      refine (rshok_any _ _).mono ?_; rintro e w2 ⟨rfl, hsw⟩; have hsw2 : w1 = w2 := by first | exact hsw | exact hsw.symm
      clear hsw; subst hsw2; obtain ⟨b1, HNb6⟩ := nQ (shOk shift2); rw [HNb6.o]; cases b1; rotate_left
      ·
       go_wp2_with fail
       refine (rval_any _ _).mono ?_; rintro e w2 ⟨rfl, hsw⟩; have hsw2 : w1 = w2 := by first | exact hsw | exact hsw.symm
       clear hsw; subst hsw2; obtain ⟨b1, HNb7⟩ := nQ (valOk mx); rw [HNb7.o]; cases b1; rotate_left
       ·
        go_wp2_with fail
        refine (rval_any _ _).mono ?_; rintro e w2 ⟨rfl, hsw⟩; have hsw2 : w1 = w2 := by first | exact hsw | exact hsw.symm
        clear hsw; subst hsw2; obtain ⟨b1, HNb8⟩ := nQ (valOk out); rw [HNb8.o]; cases b1; rotate_left
        ·
         go_wp2_with fail
         refine (rbounds_any _ _ _ _ _ _ _ (H2.o.old HR.o)).mono ?_; rintro e w1 ⟨rfl, hb⟩; have H3 := kq (H2.o.call hb); clear hb; obtain ⟨x1, HNx1⟩ := nQ (bdLo row 0 mx); rw [HNx1.o]; obtain ⟨x2, HNx2⟩ := nQ (bdHi row 0 mx); rw [HNx2.o]; obtain ⟨b1, HNb9⟩ := nQ (bdOk row 0 mx); rw [HNb9.o]; cases b1; rotate_left
         ·
          go_wp2_with fail
          refine (rspan_any _ _ _ _).mono ?_; rintro e w2 ⟨rfl, hsw⟩; have hsw2 : w1 = w2 := by first | exact hsw | exact hsw.symm
          clear hsw; subst hsw2; obtain ⟨s1, HNs1⟩ := nQ (shV x1 shift); rw [HNs1.o]; obtain ⟨s2, HNs2⟩ := nQ (shV x2 shift); rw [HNs2.o]; go_wp2_with fail
          refine (rbounds_any _ _ _ _ _ _ _ (H3.o.old HC.o)).mono ?_; rintro e w1 ⟨rfl, hb⟩; have H4 := kq (H3.o.call hb); clear hb; obtain ⟨x64, HNx64⟩ := nQ (bdLo col s1 s2); rw [HNx64.o]; obtain ⟨x1, HNx3⟩ := nQ (bdHi col s1 s2); rw [HNx3.o]; obtain ⟨b1, HNb10⟩ := nQ (bdOk col s1 s2); rw [HNb10.o]; cases b1; rotate_left
          ·
           go_wp2_with fail
           go_ret
           exact ⟨ret_i (by unfold spCode; rw [if_neg (fun hc => hc ⟨by rw [HLR.o]; exact HNb1.o, by rw [HLC.o]; exact HNb2.o⟩), if_neg (fun hc => hc ⟨HNb3.o, HNb4.o, HNb5.o, HNb6.o⟩), if_neg (fun hc => hc ⟨HNb7.o, HNb8.o⟩), if_neg (by rw [HNb9.o]; simp), if_neg (by rw [← (bdOk_yes HNb9.o).1, ← (bdOk_yes HNb9.o).2, HNx1.o, HNx2.o, HNs1.o, HNs2.o, HNb10.o]; simp)]), H4.o.bl⟩
          go_wp2_with fail
          go_ret
          exact ⟨ret_i (by unfold spCode; rw [if_neg (fun hc => hc ⟨by rw [HLR.o]; exact HNb1.o, by rw [HLC.o]; exact HNb2.o⟩), if_neg (fun hc => hc ⟨HNb3.o, HNb4.o, HNb5.o, HNb6.o⟩), if_neg (fun hc => hc ⟨HNb7.o, HNb8.o⟩), if_neg (by rw [HNb9.o]; simp), if_pos (by rw [← (bdOk_yes HNb9.o).1, ← (bdOk_yes HNb9.o).2, HNx1.o, HNx2.o, HNs1.o, HNs2.o, HNb10.o])]), H4.o.bl⟩
         go_wp2_with fail
         go_ret
         exact ⟨ret_i (by unfold spCode; rw [if_neg (fun hc => hc ⟨by rw [HLR.o]; exact HNb1.o, by rw [HLC.o]; exact HNb2.o⟩), if_neg (fun hc => hc ⟨HNb3.o, HNb4.o, HNb5.o, HNb6.o⟩), if_neg (fun hc => hc ⟨HNb7.o, HNb8.o⟩), if_pos HNb9.o]), H3.o.bl⟩
        go_wp2_with fail
        go_ret
        exact ⟨ret_i (by unfold spCode; rw [if_neg (fun hc => hc ⟨by rw [HLR.o]; exact HNb1.o, by rw [HLC.o]; exact HNb2.o⟩), if_neg (fun hc => hc ⟨HNb3.o, HNb4.o, HNb5.o, HNb6.o⟩), if_pos (by intro hc; have h := hc.2; rw [HNb8.o] at h; cases h)]), H2.o.bl⟩
       go_wp2_with fail
       go_ret
       exact ⟨ret_i (by unfold spCode; rw [if_neg (fun hc => hc ⟨by rw [HLR.o]; exact HNb1.o, by rw [HLC.o]; exact HNb2.o⟩), if_neg (fun hc => hc ⟨HNb3.o, HNb4.o, HNb5.o, HNb6.o⟩), if_pos (by intro hc; have h := hc.1; rw [HNb7.o] at h; cases h)]), H2.o.bl⟩
      go_wp2_with fail
      go_ret
      exact ⟨ret_i (by unfold spCode; rw [if_neg (fun hc => hc ⟨by rw [HLR.o]; exact HNb1.o, by rw [HLC.o]; exact HNb2.o⟩), if_pos (by intro hc; have h := hc.2.2.2; rw [HNb6.o] at h; cases h)]), H2.o.bl⟩
     go_wp2_with fail
     go_ret
     exact ⟨ret_i (by unfold spCode; rw [if_neg (fun hc => hc ⟨by rw [HLR.o]; exact HNb1.o, by rw [HLC.o]; exact HNb2.o⟩), if_pos (by intro hc; have h := hc.2.2.1; rw [HNb5.o] at h; cases h)]), H2.o.bl⟩
    go_wp2_with fail
    go_ret
    exact ⟨ret_i (by unfold spCode; rw [if_neg (fun hc => hc ⟨by rw [HLR.o]; exact HNb1.o, by rw [HLC.o]; exact HNb2.o⟩), if_pos (by intro hc; have h := hc.2.1; rw [HNb4.o] at h; cases h)]), H2.o.bl⟩
   go_wp2_with fail
   go_ret
   exact ⟨ret_i (by unfold spCode; rw [if_neg (fun hc => hc ⟨by rw [HLR.o]; exact HNb1.o, by rw [HLC.o]; exact HNb2.o⟩), if_pos (by intro hc; have h := hc.1; rw [HNb3.o] at h; cases h)]), H1.o.bl⟩
  go_wp2_with fail
  go_ret
  exact ⟨ret_i (by unfold spCode; rw [if_pos (by intro hc; have h := hc.2; rw [HLC.o] at h; rw [HNb2.o] at h; cases h)]), HI0.o.bl⟩
 go_wp2_with fail
 go_ret
 exact ⟨ret_i (by unfold spCode; rw [if_pos (by intro hc; have h := hc.1; rw [HLR.o] at h; rw [HNb1.o] at h; cases h)]), HI0.o.bl⟩
end Go.Proofs.YteejjnhlfgjlaaaGreat
