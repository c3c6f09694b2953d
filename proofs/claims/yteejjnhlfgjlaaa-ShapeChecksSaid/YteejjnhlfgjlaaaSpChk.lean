/-
 Contracts: the errors of row and column kernels, in the program and in the reference.
-/
import Derived.Test.YteejjnhlfgjlaaaSpPlain
import Derived.Test.YteejjnhlfgjlaaaKN
namespace Go.Proofs.Yteejjnhlfgjlaaa
open Go.RowKit
attribute [local go_sem ↓] Go.wp_at_zero Go.wp_at_succ
set_option linter.unusedVariables false
set_option linter.unusedSimpArgs false

theorem idx2_0 (x y : Value) (w : World) : (Instr.index 80 (.agg #[x, y]) (.int .i64 0)).run Try.prog w = .ok x w := by
 have h := Try.underlying80; simp [Instr.index, run_underlying h, asIntOf, go_sem]
theorem idx2_1 (x y : Value) (w : World) : (Instr.index 80 (.agg #[x, y]) (.int .i64 1)).run Try.prog w = .ok y w := by
 have h := Try.underlying80; simp [Instr.index, run_underlying h, asIntOf, go_sem]
attribute [local go_sem ↓] idx2_0 idx2_1

set_option maxRecDepth 100000 in
set_option maxHeartbeats 6400000 in
theorem scheck_any (mx shift shift2 out : Int) (ra : Option Addr) (rn rc : Nat) (row : List Int) (ca : Option Addr) (cn cc : Nat) (col : List Int) (W : World) (hr : Slc W ra rn rc row) (hc : Slc W ca cn cc col) :
    Calls Try.prog 41 #[.int .i64 mx, .slice ra rn rc, .slice ca cn cc, .int .i64 shift, .int .i64 shift2, .int .i64 out] W fun e w' => e = .returned (.int .i64 (spCode mx row col shift shift2 out)) ∧ Below W.heap.size W w' := by
  obtain ⟨B, hB⟩ : ∃ B, W.heap.size = B := ⟨_, rfl⟩; have HI0 := hid (St.init hB); have HR := hid hr; have HC := hid hc; have HLR := hid hr.len; have HLC := hid hc.len; have rnm : (rn : Int) ≤ 9223372036854775807 := by have := hr.nc; have := hr.cap; omega
  have cnm : (cn : Int) ≤ 9223372036854775807 := by have := hc.nc; have := hc.cap; omega
  clear hr hc
  go_enter Try.func41, Try.ntmps41
  go_wp2_with fail
  go_loopw [24] (fun i wr => ∃ j : Nat, j ≤ 2 ∧ i = .int .i64 j ∧ (1 ≤ j → 1 ≤ rn ∧ rn ≤ 9) ∧ (2 ≤ j → 1 ≤ cn ∧ cn ≤ 9) ∧ St B W [] [] wr) (fun i _ => 2 - (intOf i).toNat)
  case atStart => exact ⟨0, by omega, rfl, fun h => by omega, fun h => by omega, HI0.out⟩
  case round =>
    obtain ⟨j, hj, rfl, hrn, hcn, hst⟩ := hrel; obtain ⟨u1, rfl⟩ : ∃ u1 : World, u1 = wr := ⟨_, rfl⟩; have H2 := hid hst; clear hst; have HRN := hid hrn; have HCN := hid hcn; clear hrn hcn
    rcases (show j = 0 ∨ j = 1 ∨ j = 2 by omega) with hj' | hj' | hj'
    · skip
      subst hj'; by_cases c3 : (rn : Int) = 0
      · obtain ⟨c3c, c3d⟩ : (rn : Int) ≤ 0 ∧ (0 : Int) ≤ rn := by omega
        have c3a : ((rn : Int) == (0)) = true := by simpa using c3
        have c3b : ((rn : Int) != (0)) = false := by simpa using c3
        have c3h := hid c3; clear c3; go_wp2_with fail
        go_ret
        exact ⟨ret_i (by unfold spCode; rw [if_pos (by intro hc; have h1 := hc.1; have h2 := hc.2; simp only [sideOk, decide_eq_true_eq] at h1 h2; rw [HLR.out] at h1; rw [HLC.out] at h2; have := c3h.out; omega)]), H2.out.bl⟩
      · have c3a : ((rn : Int) == (0)) = false := by simpa using c3
        have c3b : ((rn : Int) != (0)) = true := by simpa using c3
        have c3h := hid c3; clear c3; by_cases c4 : (9 : Int) < rn
        · skip
          go_wp2_with fail
          go_ret
          exact ⟨ret_i (by unfold spCode; rw [if_pos (by intro hc; have h1 := hc.1; have h2 := hc.2; simp only [sideOk, decide_eq_true_eq] at h1 h2; rw [HLR.out] at h1; rw [HLC.out] at h2; have := c3h.out; omega)]), H2.out.bl⟩
        · skip
          go_wp2_with fail
          go_roundw
          case rel => exact ⟨1, by omega, by first | rfl | go_num, fun h => by first | exact HRN.out (by omega) | (have := c3h.out; omega), fun h => by first | (exfalso; omega) | (have := c3h.out; omega), H2.out⟩
          case measure => first | (simp [intOf]; omega) | (simp [intOf]; done)
    · skip
      subst hj'; by_cases c5 : (cn : Int) = 0
      · obtain ⟨c5c, c5d⟩ : (cn : Int) ≤ 0 ∧ (0 : Int) ≤ cn := by omega
        have c5a : ((cn : Int) == (0)) = true := by simpa using c5
        have c5b : ((cn : Int) != (0)) = false := by simpa using c5
        have c5h := hid c5; clear c5; go_wp2_with fail
        go_ret
        exact ⟨ret_i (by unfold spCode; rw [if_pos (by intro hc; have h1 := hc.1; have h2 := hc.2; simp only [sideOk, decide_eq_true_eq] at h1 h2; rw [HLR.out] at h1; rw [HLC.out] at h2; have := c5h.out; omega)]), H2.out.bl⟩
      · have c5a : ((cn : Int) == (0)) = false := by simpa using c5
        have c5b : ((cn : Int) != (0)) = true := by simpa using c5
        have c5h := hid c5; clear c5; by_cases c6 : (9 : Int) < cn
        · skip
          go_wp2_with fail
          go_ret
          exact ⟨ret_i (by unfold spCode; rw [if_pos (by intro hc; have h1 := hc.1; have h2 := hc.2; simp only [sideOk, decide_eq_true_eq] at h1 h2; rw [HLR.out] at h1; rw [HLC.out] at h2; have := c5h.out; omega)]), H2.out.bl⟩
        · skip
          go_wp2_with fail
          go_roundw
          case rel => exact ⟨2, by omega, by first | rfl | go_num, fun h => by first | exact HRN.out (by omega) | (have := c5h.out; omega), fun h => by first | (exfalso; omega) | (have := c5h.out; omega), H2.out⟩
          case measure => first | (simp [intOf]; omega) | (simp [intOf]; done)
    · skip
      subst hj'; obtain ⟨rn1, rn2⟩ := HRN.out (by omega); obtain ⟨cn1, cn2⟩ := HCN.out (by omega); go_wp2_with fail
      refine (fweights_any _ _ _ _ _ (H2.out.old HR.out)).mono ?_; rintro e w7 ⟨rfl, hb⟩; have H8 := hid (H2.out.call hb); clear hb; obtain ⟨k9, hk9⟩ : ∃ xx', wCode row = xx' := ⟨_, rfl⟩; rw [hk9]; have HNk9 := hid hk9; clear hk9; by_cases c1 : (k9 : Int) = 0
      · obtain ⟨c1c, c1d⟩ : (k9 : Int) ≤ 0 ∧ (0 : Int) ≤ k9 := by omega
        have c1a : ((k9 : Int) == (0)) = true := by simpa using c1
        have c1b : ((k9 : Int) != (0)) = false := by simpa using c1
        have c1h := hid c1; clear c1; go_wp2_with fail
        refine (fweights_any _ _ _ _ _ (H8.out.old HC.out)).mono ?_; rintro e w1 ⟨rfl, hb⟩; have H1 := hid (H8.out.call hb); clear hb; obtain ⟨k1, hk1⟩ : ∃ xx', wCode col = xx' := ⟨_, rfl⟩; rw [hk1]; have HNk1 := hid hk1; clear hk1; by_cases c2 : (k1 : Int) = 0
        · obtain ⟨c2c, c2d⟩ : (k1 : Int) ≤ 0 ∧ (0 : Int) ≤ k1 := by omega
          have c2a : ((k1 : Int) == (0)) = true := by simpa using c2
          have c2b : ((k1 : Int) != (0)) = false := by simpa using c2
          have c2h := hid c2; clear c2; by_cases c7 : (shift : Int) < 0
          · skip
            go_wp2_with fail
            go_ret
            exact ⟨ret_i (by unfold spCode; rw [if_neg (fun hc => hc ⟨by simp only [sideOk, decide_eq_true_eq]; rw [HLR.out]; omega, by simp only [sideOk, decide_eq_true_eq]; rw [HLC.out]; omega⟩), if_pos (by intro hc; have h1 := hc.2.2.1; have h2 := hc.2.2.2; simp only [shOk, decide_eq_true_eq] at h1 h2; omega)]), H1.out.bl⟩
          · skip
            by_cases c16 : (24 : Int) < shift
            · skip
              go_wp2_with fail
              go_ret
              exact ⟨ret_i (by unfold spCode; rw [if_neg (fun hc => hc ⟨by simp only [sideOk, decide_eq_true_eq]; rw [HLR.out]; omega, by simp only [sideOk, decide_eq_true_eq]; rw [HLC.out]; omega⟩), if_pos (by intro hc; have h1 := hc.2.2.1; have h2 := hc.2.2.2; simp only [shOk, decide_eq_true_eq] at h1 h2; omega)]), H1.out.bl⟩
            · skip
              by_cases c7 : (shift2 : Int) < 0
              · skip
                go_wp2_with fail
                go_ret
                exact ⟨ret_i (by unfold spCode; rw [if_neg (fun hc => hc ⟨by simp only [sideOk, decide_eq_true_eq]; rw [HLR.out]; omega, by simp only [sideOk, decide_eq_true_eq]; rw [HLC.out]; omega⟩), if_pos (by intro hc; have h1 := hc.2.2.1; have h2 := hc.2.2.2; simp only [shOk, decide_eq_true_eq] at h1 h2; omega)]), H1.out.bl⟩
              · skip
                by_cases c7 : (24 : Int) < shift2
                · skip
                  go_wp2_with fail
                  go_ret
                  exact ⟨ret_i (by unfold spCode; rw [if_neg (fun hc => hc ⟨by simp only [sideOk, decide_eq_true_eq]; rw [HLR.out]; omega, by simp only [sideOk, decide_eq_true_eq]; rw [HLC.out]; omega⟩), if_pos (by intro hc; have h1 := hc.2.2.1; have h2 := hc.2.2.2; simp only [shOk, decide_eq_true_eq] at h1 h2; omega)]), H1.out.bl⟩
                · skip
                  by_cases c7 : (mx : Int) < 1
                  · skip
                    go_wp2_with fail
                    go_ret
                    exact ⟨ret_i (by unfold spCode; rw [if_neg (fun hc => hc ⟨by simp only [sideOk, decide_eq_true_eq]; rw [HLR.out]; omega, by simp only [sideOk, decide_eq_true_eq]; rw [HLC.out]; omega⟩), if_neg (fun hc => hc ⟨(wCode_zero.1 (by rw [HNk9.out]; have := c1h.out; have := c2h.out; omega)).2.2, (wCode_zero.1 (by rw [HNk1.out]; have := c1h.out; have := c2h.out; omega)).2.2, by simp only [shOk, decide_eq_true_eq]; omega, by simp only [shOk, decide_eq_true_eq]; omega⟩), if_pos (by simp only [valOk, decide_eq_true_eq]; omega)]), H1.out.bl⟩
                  · skip
                    by_cases c7 : (4294967296 : Int) < mx
                    · skip
                      go_wp2_with fail
                      go_ret
                      exact ⟨ret_i (by unfold spCode; rw [if_neg (fun hc => hc ⟨by simp only [sideOk, decide_eq_true_eq]; rw [HLR.out]; omega, by simp only [sideOk, decide_eq_true_eq]; rw [HLC.out]; omega⟩), if_neg (fun hc => hc ⟨(wCode_zero.1 (by rw [HNk9.out]; have := c1h.out; have := c2h.out; omega)).2.2, (wCode_zero.1 (by rw [HNk1.out]; have := c1h.out; have := c2h.out; omega)).2.2, by simp only [shOk, decide_eq_true_eq]; omega, by simp only [shOk, decide_eq_true_eq]; omega⟩), if_pos (by simp only [valOk, decide_eq_true_eq]; omega)]), H1.out.bl⟩
                    · skip
                      by_cases c7 : (out : Int) < 1
                      · skip
                        go_wp2_with fail
                        go_ret
                        exact ⟨ret_i (by unfold spCode; rw [if_neg (fun hc => hc ⟨by simp only [sideOk, decide_eq_true_eq]; rw [HLR.out]; omega, by simp only [sideOk, decide_eq_true_eq]; rw [HLC.out]; omega⟩), if_neg (fun hc => hc ⟨(wCode_zero.1 (by rw [HNk9.out]; have := c1h.out; have := c2h.out; omega)).2.2, (wCode_zero.1 (by rw [HNk1.out]; have := c1h.out; have := c2h.out; omega)).2.2, by simp only [shOk, decide_eq_true_eq]; omega, by simp only [shOk, decide_eq_true_eq]; omega⟩), if_pos (by simp only [valOk, decide_eq_true_eq]; omega)]), H1.out.bl⟩
                      · skip
                        by_cases c7 : (4294967296 : Int) < out
                        · skip
                          go_wp2_with fail
                          go_ret
                          exact ⟨ret_i (by unfold spCode; rw [if_neg (fun hc => hc ⟨by simp only [sideOk, decide_eq_true_eq]; rw [HLR.out]; omega, by simp only [sideOk, decide_eq_true_eq]; rw [HLC.out]; omega⟩), if_neg (fun hc => hc ⟨(wCode_zero.1 (by rw [HNk9.out]; have := c1h.out; have := c2h.out; omega)).2.2, (wCode_zero.1 (by rw [HNk1.out]; have := c1h.out; have := c2h.out; omega)).2.2, by simp only [shOk, decide_eq_true_eq]; omega, by simp only [shOk, decide_eq_true_eq]; omega⟩), if_pos (by simp only [valOk, decide_eq_true_eq]; omega)]), H1.out.bl⟩
                        · skip
                          go_wp2_with fail
                          refine (fbounds_any _ _ _ _ _ _ _ (H1.out.old HR.out)).mono ?_; rintro e w1 ⟨rfl, hb⟩; have H3 := hid (H1.out.call hb); clear hb; obtain ⟨x1, hx1⟩ : ∃ xx', bdLo row 0 mx = xx' := ⟨_, rfl⟩; rw [hx1]; have HNx1 := hid hx1; clear hx1; obtain ⟨x2, hx1⟩ : ∃ xx', bdHi row 0 mx = xx' := ⟨_, rfl⟩; rw [hx1]; have HNx2 := hid hx1; clear hx1; obtain ⟨b1, hb1⟩ : ∃ xx', bdOk row 0 mx = xx' := ⟨_, rfl⟩; rw [hb1]; have HNb1 := hid hb1; clear hb1; cases b1; rotate_left
                          ·
                            go_wp2_with fail
                            refine (fspan_any _ _ _ _).mono ?_; rintro e w2 ⟨rfl, hsw⟩; have hsw2 : w1 = w2 := by first | exact hsw | exact hsw.symm
                            clear hsw; subst hsw2; obtain ⟨s1, hs1⟩ : ∃ xx', shV x1 shift = xx' := ⟨_, rfl⟩; rw [hs1]; have HNs1 := hid hs1; clear hs1; obtain ⟨s2, hs1⟩ : ∃ xx', shV x2 shift = xx' := ⟨_, rfl⟩; rw [hs1]; have HNs2 := hid hs1; clear hs1; go_wp2_with fail
                            refine (fbounds_any _ _ _ _ _ _ _ (H3.out.old HC.out)).mono ?_; rintro e w1 ⟨rfl, hb⟩; have H32 := hid (H3.out.call hb); clear hb; obtain ⟨x1, hx1⟩ : ∃ xx', bdLo col s1 s2 = xx' := ⟨_, rfl⟩; rw [hx1]; have HNx3 := hid hx1; clear hx1; obtain ⟨x1, hx1⟩ : ∃ xx', bdHi col s1 s2 = xx' := ⟨_, rfl⟩; rw [hx1]; have HNx3 := hid hx1; clear hx1; obtain ⟨b1, hb1⟩ : ∃ xx', bdOk col s1 s2 = xx' := ⟨_, rfl⟩; rw [hb1]; have HNb2 := hid hb1; clear hb1; cases b1; rotate_left
                            ·
                              go_wp2_with fail
                              go_ret
                              exact ⟨ret_i (by unfold spCode; rw [if_neg (fun hc => hc ⟨by simp only [sideOk, decide_eq_true_eq]; rw [HLR.out]; omega, by simp only [sideOk, decide_eq_true_eq]; rw [HLC.out]; omega⟩), if_neg (fun hc => hc ⟨(wCode_zero.1 (by rw [HNk9.out]; have := c1h.out; have := c2h.out; omega)).2.2, (wCode_zero.1 (by rw [HNk1.out]; have := c1h.out; have := c2h.out; omega)).2.2, by simp only [shOk, decide_eq_true_eq]; omega, by simp only [shOk, decide_eq_true_eq]; omega⟩), if_neg (by simp only [valOk, decide_eq_true_eq]; omega), if_neg (by rw [HNb1.out]; simp), if_neg (by rw [← (bdOk_yes HNb1.out).1, ← (bdOk_yes HNb1.out).2, HNx1.out, HNx2.out, HNs1.out, HNs2.out, HNb2.out]; simp)]), H32.out.bl⟩
                            go_wp2_with fail
                            go_ret
                            exact ⟨ret_i (by unfold spCode; rw [if_neg (fun hc => hc ⟨by simp only [sideOk, decide_eq_true_eq]; rw [HLR.out]; omega, by simp only [sideOk, decide_eq_true_eq]; rw [HLC.out]; omega⟩), if_neg (fun hc => hc ⟨(wCode_zero.1 (by rw [HNk9.out]; have := c1h.out; have := c2h.out; omega)).2.2, (wCode_zero.1 (by rw [HNk1.out]; have := c1h.out; have := c2h.out; omega)).2.2, by simp only [shOk, decide_eq_true_eq]; omega, by simp only [shOk, decide_eq_true_eq]; omega⟩), if_neg (by simp only [valOk, decide_eq_true_eq]; omega), if_neg (by rw [HNb1.out]; simp), if_pos (by rw [← (bdOk_yes HNb1.out).1, ← (bdOk_yes HNb1.out).2, HNx1.out, HNx2.out, HNs1.out, HNs2.out, HNb2.out])]), H32.out.bl⟩
                          go_wp2_with fail
                          go_ret
                          exact ⟨ret_i (by unfold spCode; rw [if_neg (fun hc => hc ⟨by simp only [sideOk, decide_eq_true_eq]; rw [HLR.out]; omega, by simp only [sideOk, decide_eq_true_eq]; rw [HLC.out]; omega⟩), if_neg (fun hc => hc ⟨(wCode_zero.1 (by rw [HNk9.out]; have := c1h.out; have := c2h.out; omega)).2.2, (wCode_zero.1 (by rw [HNk1.out]; have := c1h.out; have := c2h.out; omega)).2.2, by simp only [shOk, decide_eq_true_eq]; omega, by simp only [shOk, decide_eq_true_eq]; omega⟩), if_neg (by simp only [valOk, decide_eq_true_eq]; omega), if_pos HNb1.out]), H3.out.bl⟩
        · have c2a : ((k1 : Int) == (0)) = false := by simpa using c2
          have c2b : ((k1 : Int) != (0)) = true := by simpa using c2
          have c2h := hid c2; clear c2; go_wp2_with fail
          go_ret
          exact ⟨ret_i (by unfold spCode; rw [if_neg (fun hc => hc ⟨by simp only [sideOk, decide_eq_true_eq]; rw [HLR.out]; omega, by simp only [sideOk, decide_eq_true_eq]; rw [HLC.out]; omega⟩), if_pos (by intro hc; have h2 := wCode_zero.2 ⟨by rw [HLC.out]; omega, by rw [HLC.out]; omega, hc.2.1⟩; rw [HNk1.out] at h2; have := c1h.out; have := c2h.out; omega)]), H1.out.bl⟩
      · have c1a : ((k9 : Int) == (0)) = false := by simpa using c1
        have c1b : ((k9 : Int) != (0)) = true := by simpa using c1
        have c1h := hid c1; clear c1; go_wp2_with fail
        go_ret
        exact ⟨ret_i (by unfold spCode; rw [if_neg (fun hc => hc ⟨by simp only [sideOk, decide_eq_true_eq]; rw [HLR.out]; omega, by simp only [sideOk, decide_eq_true_eq]; rw [HLC.out]; omega⟩), if_pos (by intro hc; have h2 := wCode_zero.2 ⟨by rw [HLR.out]; omega, by rw [HLR.out]; omega, hc.1⟩; rw [HNk9.out] at h2; have := c1h.out; omega)]), H8.out.bl⟩

set_option maxRecDepth 100000 in
set_option maxHeartbeats 6400000 in
theorem rscheck_any (mx shift shift2 out : Int) (ra : Option Addr) (rn rc : Nat) (row : List Int) (ca : Option Addr) (cn cc : Nat) (col : List Int) (W : World) (hr : Slc W ra rn rc row) (hc : Slc W ca cn cc col) :
    Calls Try.prog 46 #[.int .i64 mx, .slice ra rn rc, .slice ca cn cc, .int .i64 shift, .int .i64 shift2, .int .i64 out] W fun e w' => e = .returned (.int .i64 (spCode mx row col shift shift2 out)) ∧ Below W.heap.size W w' := by
  obtain ⟨B, hB⟩ : ∃ B, W.heap.size = B := ⟨_, rfl⟩; have HI0 := hid (St.init hB); have HR := hid hr; have HC := hid hc; have HLR := hid hr.len; have HLC := hid hc.len; have rnm : (rn : Int) ≤ 9223372036854775807 := by have := hr.nc; have := hr.cap; omega
  have cnm : (cn : Int) ≤ 9223372036854775807 := by have := hc.nc; have := hc.cap; omega
  clear hr hc
  go_enter Try.func46, Try.ntmps46
  go_wp2_with fail
  refine (rside_any _ _).mono ?_; rintro e w1 ⟨rfl, hsw⟩; have hsw2 : W = w1 := by first | exact hsw | exact hsw.symm
  clear hsw; subst hsw2; obtain ⟨b1, hb1⟩ : ∃ xx', sideOk (rn : Int) = xx' := ⟨_, rfl⟩; rw [hb1]; have HNb1 := hid hb1; clear hb1; cases b1; rotate_left
  ·
    go_wp2_with fail
    refine (rside_any _ _).mono ?_; rintro e w1 ⟨rfl, hsw⟩; have hsw2 : W = w1 := by first | exact hsw | exact hsw.symm
    clear hsw; subst hsw2; obtain ⟨b1, hb1⟩ : ∃ xx', sideOk (cn : Int) = xx' := ⟨_, rfl⟩; rw [hb1]; have HNb2 := hid hb1; clear hb1; cases b1; rotate_left
    ·
      go_wp2_with fail
      refine (rareweights_any _ _ _ _ _ (HI0.out.old HR.out)).mono ?_; rintro e w1 ⟨rfl, hb⟩; have H1 := hid (HI0.out.call hb); clear hb; obtain ⟨b1, hb1⟩ : ∃ xx', wAll row = xx' := ⟨_, rfl⟩; rw [hb1]; have HNb3 := hid hb1; clear hb1; cases b1; rotate_left
      ·
        go_wp2_with fail
        refine (rareweights_any _ _ _ _ _ (H1.out.old HC.out)).mono ?_; rintro e w1 ⟨rfl, hb⟩; have H2 := hid (H1.out.call hb); clear hb; obtain ⟨b1, hb1⟩ : ∃ xx', wAll col = xx' := ⟨_, rfl⟩; rw [hb1]; have HNb4 := hid hb1; clear hb1; cases b1; rotate_left
        ·
          go_wp2_with fail
          refine (rshok_any _ _).mono ?_; rintro e w2 ⟨rfl, hsw⟩; have hsw2 : w1 = w2 := by first | exact hsw | exact hsw.symm
          clear hsw; subst hsw2; obtain ⟨b1, hb1⟩ : ∃ xx', shOk shift = xx' := ⟨_, rfl⟩; rw [hb1]; have HNb5 := hid hb1; clear hb1; cases b1; rotate_left
          ·
            go_wp2_with fail
            refine (rshok_any _ _).mono ?_; rintro e w2 ⟨rfl, hsw⟩; have hsw2 : w1 = w2 := by first | exact hsw | exact hsw.symm
            clear hsw; subst hsw2; obtain ⟨b1, hb1⟩ : ∃ xx', shOk shift2 = xx' := ⟨_, rfl⟩; rw [hb1]; have HNb6 := hid hb1; clear hb1; cases b1; rotate_left
            ·
              go_wp2_with fail
              refine (rval_any _ _).mono ?_; rintro e w2 ⟨rfl, hsw⟩; have hsw2 : w1 = w2 := by first | exact hsw | exact hsw.symm
              clear hsw; subst hsw2; obtain ⟨b1, hb1⟩ : ∃ xx', valOk mx = xx' := ⟨_, rfl⟩; rw [hb1]; have HNb7 := hid hb1; clear hb1; cases b1; rotate_left
              ·
                go_wp2_with fail
                refine (rval_any _ _).mono ?_; rintro e w2 ⟨rfl, hsw⟩; have hsw2 : w1 = w2 := by first | exact hsw | exact hsw.symm
                clear hsw; subst hsw2; obtain ⟨b1, hb1⟩ : ∃ xx', valOk out = xx' := ⟨_, rfl⟩; rw [hb1]; have HNb8 := hid hb1; clear hb1; cases b1; rotate_left
                ·
                  go_wp2_with fail
                  refine (rbounds_any _ _ _ _ _ _ _ (H2.out.old HR.out)).mono ?_; rintro e w1 ⟨rfl, hb⟩; have H3 := hid (H2.out.call hb); clear hb; obtain ⟨x1, hx1⟩ : ∃ xx', bdLo row 0 mx = xx' := ⟨_, rfl⟩; rw [hx1]; have HNx1 := hid hx1; clear hx1; obtain ⟨x2, hx1⟩ : ∃ xx', bdHi row 0 mx = xx' := ⟨_, rfl⟩; rw [hx1]; have HNx2 := hid hx1; clear hx1; obtain ⟨b1, hb1⟩ : ∃ xx', bdOk row 0 mx = xx' := ⟨_, rfl⟩; rw [hb1]; have HNb9 := hid hb1; clear hb1; cases b1; rotate_left
                  ·
                    go_wp2_with fail
                    refine (rspan_any _ _ _ _).mono ?_; rintro e w2 ⟨rfl, hsw⟩; have hsw2 : w1 = w2 := by first | exact hsw | exact hsw.symm
                    clear hsw; subst hsw2; obtain ⟨s1, hs1⟩ : ∃ xx', shV x1 shift = xx' := ⟨_, rfl⟩; rw [hs1]; have HNs1 := hid hs1; clear hs1; obtain ⟨s2, hs1⟩ : ∃ xx', shV x2 shift = xx' := ⟨_, rfl⟩; rw [hs1]; have HNs2 := hid hs1; clear hs1; go_wp2_with fail
                    refine (rbounds_any _ _ _ _ _ _ _ (H3.out.old HC.out)).mono ?_; rintro e w1 ⟨rfl, hb⟩; have H4 := hid (H3.out.call hb); clear hb; obtain ⟨x64, hx64⟩ : ∃ xx', bdLo col s1 s2 = xx' := ⟨_, rfl⟩; rw [hx64]; have HNx64 := hid hx64; clear hx64; obtain ⟨x1, hx1⟩ : ∃ xx', bdHi col s1 s2 = xx' := ⟨_, rfl⟩; rw [hx1]; have HNx3 := hid hx1; clear hx1; obtain ⟨b1, hb1⟩ : ∃ xx', bdOk col s1 s2 = xx' := ⟨_, rfl⟩; rw [hb1]; have HNb10 := hid hb1; clear hb1; cases b1; rotate_left
                    ·
                      go_wp2_with fail
                      go_ret
                      exact ⟨ret_i (by unfold spCode; rw [if_neg (fun hc => hc ⟨by rw [HLR.out]; exact HNb1.out, by rw [HLC.out]; exact HNb2.out⟩), if_neg (fun hc => hc ⟨HNb3.out, HNb4.out, HNb5.out, HNb6.out⟩), if_neg (fun hc => hc ⟨HNb7.out, HNb8.out⟩), if_neg (by rw [HNb9.out]; simp), if_neg (by rw [← (bdOk_yes HNb9.out).1, ← (bdOk_yes HNb9.out).2, HNx1.out, HNx2.out, HNs1.out, HNs2.out, HNb10.out]; simp)]), H4.out.bl⟩
                    go_wp2_with fail
                    go_ret
                    exact ⟨ret_i (by unfold spCode; rw [if_neg (fun hc => hc ⟨by rw [HLR.out]; exact HNb1.out, by rw [HLC.out]; exact HNb2.out⟩), if_neg (fun hc => hc ⟨HNb3.out, HNb4.out, HNb5.out, HNb6.out⟩), if_neg (fun hc => hc ⟨HNb7.out, HNb8.out⟩), if_neg (by rw [HNb9.out]; simp), if_pos (by rw [← (bdOk_yes HNb9.out).1, ← (bdOk_yes HNb9.out).2, HNx1.out, HNx2.out, HNs1.out, HNs2.out, HNb10.out])]), H4.out.bl⟩
                  go_wp2_with fail
                  go_ret
                  exact ⟨ret_i (by unfold spCode; rw [if_neg (fun hc => hc ⟨by rw [HLR.out]; exact HNb1.out, by rw [HLC.out]; exact HNb2.out⟩), if_neg (fun hc => hc ⟨HNb3.out, HNb4.out, HNb5.out, HNb6.out⟩), if_neg (fun hc => hc ⟨HNb7.out, HNb8.out⟩), if_pos HNb9.out]), H3.out.bl⟩
                go_wp2_with fail
                go_ret
                exact ⟨ret_i (by unfold spCode; rw [if_neg (fun hc => hc ⟨by rw [HLR.out]; exact HNb1.out, by rw [HLC.out]; exact HNb2.out⟩), if_neg (fun hc => hc ⟨HNb3.out, HNb4.out, HNb5.out, HNb6.out⟩), if_pos (by intro hc; have h := hc.2; rw [HNb8.out] at h; cases h)]), H2.out.bl⟩
              go_wp2_with fail
              go_ret
              exact ⟨ret_i (by unfold spCode; rw [if_neg (fun hc => hc ⟨by rw [HLR.out]; exact HNb1.out, by rw [HLC.out]; exact HNb2.out⟩), if_neg (fun hc => hc ⟨HNb3.out, HNb4.out, HNb5.out, HNb6.out⟩), if_pos (by intro hc; have h := hc.1; rw [HNb7.out] at h; cases h)]), H2.out.bl⟩
            go_wp2_with fail
            go_ret
            exact ⟨ret_i (by unfold spCode; rw [if_neg (fun hc => hc ⟨by rw [HLR.out]; exact HNb1.out, by rw [HLC.out]; exact HNb2.out⟩), if_pos (by intro hc; have h := hc.2.2.2; rw [HNb6.out] at h; cases h)]), H2.out.bl⟩
          go_wp2_with fail
          go_ret
          exact ⟨ret_i (by unfold spCode; rw [if_neg (fun hc => hc ⟨by rw [HLR.out]; exact HNb1.out, by rw [HLC.out]; exact HNb2.out⟩), if_pos (by intro hc; have h := hc.2.2.1; rw [HNb5.out] at h; cases h)]), H2.out.bl⟩
        go_wp2_with fail
        go_ret
        exact ⟨ret_i (by unfold spCode; rw [if_neg (fun hc => hc ⟨by rw [HLR.out]; exact HNb1.out, by rw [HLC.out]; exact HNb2.out⟩), if_pos (by intro hc; have h := hc.2.1; rw [HNb4.out] at h; cases h)]), H2.out.bl⟩
      go_wp2_with fail
      go_ret
      exact ⟨ret_i (by unfold spCode; rw [if_neg (fun hc => hc ⟨by rw [HLR.out]; exact HNb1.out, by rw [HLC.out]; exact HNb2.out⟩), if_pos (by intro hc; have h := hc.1; rw [HNb3.out] at h; cases h)]), H1.out.bl⟩
    go_wp2_with fail
    go_ret
    exact ⟨ret_i (by unfold spCode; rw [if_pos (by intro hc; have h := hc.2; rw [HLC.out] at h; rw [HNb2.out] at h; cases h)]), HI0.out.bl⟩
  go_wp2_with fail
  go_ret
  exact ⟨ret_i (by unfold spCode; rw [if_pos (by intro hc; have h := hc.1; rw [HLR.out] at h; rw [HNb1.out] at h; cases h)]), HI0.out.bl⟩
end Go.Proofs.Yteejjnhlfgjlaaa
