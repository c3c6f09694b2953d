/-
  Contracts: the errors of row and column kernels, in the program and in the reference.
-/
import Derived.Test.YtfdkgjphnlijiaaSpPlain
import Derived.Test.YtfdkgjphnlijiaaCvChk
namespace Go.Proofs.Ytfdkgjphnlijiaa
open Go.RowKit
attribute [local go_sem ↓] Go.wp_at_zero Go.wp_at_succ
set_option linter.unusedVariables false
set_option linter.unusedSimpArgs false

theorem idx2_0 (x y : Value) (w : World) : (Instr.index 55 (.agg #[x, y]) (.int .i64 0)).run Try.prog w = .ok x w := by
  have h := Try.underlying55
  simp [Instr.index, run_underlying h, asIntOf, go_sem]
theorem idx2_1 (x y : Value) (w : World) : (Instr.index 55 (.agg #[x, y]) (.int .i64 1)).run Try.prog w = .ok y w := by
  have h := Try.underlying55
  simp [Instr.index, run_underlying h, asIntOf, go_sem]
attribute [local go_sem ↓] idx2_0 idx2_1

set_option maxRecDepth 100000 in
set_option maxHeartbeats 6400000 in
theorem scheck_any (mx shift shift2 out : Int) (ra : Option Addr) (rn rc : Nat) (row : List Int) (ca : Option Addr) (cn cc : Nat) (col : List Int) (W : World) (hr : Slc W ra rn rc row) (hc : Slc W ca cn cc col) :
    Calls Try.prog 12 #[.int .i64 mx, .slice ra rn rc, .slice ca cn cc, .int .i64 shift, .int .i64 shift2, .int .i64 out] W fun e w' => e = .returned (.int .i64 (spCode mx row col shift shift2 out)) ∧ Below W.heap.size W w' := by
  obtain ⟨B, hB⟩ : ∃ B, W.heap.size = B := ⟨_, rfl⟩
  have HI0 := hid (St.init hB)
  have HR := hid hr
  have HC := hid hc
  have HLR := hid hr.len
  have HLC := hid hc.len
  have rnm : (rn : Int) ≤ 9223372036854775807 := by have := hr.nc; have := hr.cap; omega
  have cnm : (cn : Int) ≤ 9223372036854775807 := by have := hc.nc; have := hc.cap; omega
  clear hr hc
  go_enter Try.func12, Try.ntmps12
  go_wp2_with fail
  go_loopw [24] (fun i wr => ∃ j : Nat, j ≤ 2 ∧ i = .int .i64 j ∧ (1 ≤ j → 1 ≤ rn ∧ rn ≤ 9) ∧ (2 ≤ j → 1 ≤ cn ∧ cn ≤ 9) ∧ St B W [] [] wr) (fun i _ => 2 - (intOf i).toNat)
  case atStart => exact ⟨0, by omega, rfl, fun h => by omega, fun h => by omega, HI0.out⟩
  case round =>
    obtain ⟨j, hj, rfl, hrn, hcn, hst⟩ := hrel
    obtain ⟨u1, rfl⟩ : ∃ u1 : World, u1 = wr := ⟨_, rfl⟩
    have H2 := hid hst
    clear hst
    have HRN := hid hrn
    have HCN := hid hcn
    clear hrn hcn
    rcases (show j = 0 ∨ j = 1 ∨ j = 2 by omega) with hj' | hj' | hj'
    · skip
      subst hj'
      by_cases c3 : (rn : Int) = 0
      · obtain ⟨c3c, c3d⟩ : (rn : Int) ≤ 0 ∧ (0 : Int) ≤ rn := by omega
        have c3a : ((rn : Int) == (0)) = true := by simpa using c3
        have c3b : ((rn : Int) != (0)) = false := by simpa using c3
        have c3h := hid c3
        clear c3
        go_wp2_with fail
        go_ret
        exact ⟨ret_i (by unfold spCode; rw [if_pos (by intro hc; have h1 := hc.1; have h2 := hc.2; simp only [sideOk, decide_eq_true_eq] at h1 h2; rw [HLR.out] at h1; rw [HLC.out] at h2; have := c3h.out; omega)]), by first | exact H2.out.below | exact H2.out.below'⟩
      · have c3a : ((rn : Int) == (0)) = false := by simpa using c3
        have c3b : ((rn : Int) != (0)) = true := by simpa using c3
        have c3h := hid c3
        clear c3
        by_cases c4 : (9 : Int) < rn
        · skip
          go_wp2_with fail
          go_ret
          exact ⟨ret_i (by unfold spCode; rw [if_pos (by intro hc; have h1 := hc.1; have h2 := hc.2; simp only [sideOk, decide_eq_true_eq] at h1 h2; rw [HLR.out] at h1; rw [HLC.out] at h2; have := c3h.out; omega)]), by first | exact H2.out.below | exact H2.out.below'⟩
        · skip
          go_wp2_with fail
          go_roundw
          case rel => exact ⟨1, by omega, by first | rfl | go_num, fun h => by first | exact HRN.out (by omega) | (have := c3h.out; omega), fun h => by first | (exfalso; omega) | (have := c3h.out; omega), H2.out⟩
          case measure => first | (simp [intOf]; omega) | (simp [intOf]; done)
    · skip
      subst hj'
      by_cases c5 : (cn : Int) = 0
      · obtain ⟨c5c, c5d⟩ : (cn : Int) ≤ 0 ∧ (0 : Int) ≤ cn := by omega
        have c5a : ((cn : Int) == (0)) = true := by simpa using c5
        have c5b : ((cn : Int) != (0)) = false := by simpa using c5
        have c5h := hid c5
        clear c5
        go_wp2_with fail
        go_ret
        exact ⟨ret_i (by unfold spCode; rw [if_pos (by intro hc; have h1 := hc.1; have h2 := hc.2; simp only [sideOk, decide_eq_true_eq] at h1 h2; rw [HLR.out] at h1; rw [HLC.out] at h2; have := c5h.out; omega)]), by first | exact H2.out.below | exact H2.out.below'⟩
      · have c5a : ((cn : Int) == (0)) = false := by simpa using c5
        have c5b : ((cn : Int) != (0)) = true := by simpa using c5
        have c5h := hid c5
        clear c5
        by_cases c6 : (9 : Int) < cn
        · skip
          go_wp2_with fail
          go_ret
          exact ⟨ret_i (by unfold spCode; rw [if_pos (by intro hc; have h1 := hc.1; have h2 := hc.2; simp only [sideOk, decide_eq_true_eq] at h1 h2; rw [HLR.out] at h1; rw [HLC.out] at h2; have := c5h.out; omega)]), by first | exact H2.out.below | exact H2.out.below'⟩
        · skip
          go_wp2_with fail
          go_roundw
          case rel => exact ⟨2, by omega, by first | rfl | go_num, fun h => by first | exact HRN.out (by omega) | (have := c5h.out; omega), fun h => by first | (exfalso; omega) | (have := c5h.out; omega), H2.out⟩
          case measure => first | (simp [intOf]; omega) | (simp [intOf]; done)
    · skip
      subst hj'
      obtain ⟨rn1, rn2⟩ := HRN.out (by omega)
      obtain ⟨cn1, cn2⟩ := HCN.out (by omega)
      go_wp2_with fail
      refine (fweights_any _ _ _ _ _ (H2.out.old HR.out)).mono ?_
      rintro e w7 ⟨rfl, hb⟩
      have H8 := hid (H2.out.call hb)
      clear hb
      obtain ⟨k9, hk9⟩ : ∃ xx', wCode row = xx' := ⟨_, rfl⟩
      rw [hk9]
      have HNk9 := hid hk9
      clear hk9
      by_cases c10 : (k9 : Int) = 0
      · obtain ⟨c10c, c10d⟩ : (k9 : Int) ≤ 0 ∧ (0 : Int) ≤ k9 := by omega
        have c10a : ((k9 : Int) == (0)) = true := by simpa using c10
        have c10b : ((k9 : Int) != (0)) = false := by simpa using c10
        have c10h := hid c10
        clear c10
        go_wp2_with fail
        refine (fweights_any _ _ _ _ _ (H8.out.old HC.out)).mono ?_
        rintro e w11 ⟨rfl, hb⟩
        have H12 := hid (H8.out.call hb)
        clear hb
        obtain ⟨k13, hk13⟩ : ∃ xx', wCode col = xx' := ⟨_, rfl⟩
        rw [hk13]
        have HNk13 := hid hk13
        clear hk13
        by_cases c14 : (k13 : Int) = 0
        · obtain ⟨c14c, c14d⟩ : (k13 : Int) ≤ 0 ∧ (0 : Int) ≤ k13 := by omega
          have c14a : ((k13 : Int) == (0)) = true := by simpa using c14
          have c14b : ((k13 : Int) != (0)) = false := by simpa using c14
          have c14h := hid c14
          clear c14
          by_cases c15 : (shift : Int) < 0
          · skip
            go_wp2_with fail
            go_ret
            exact ⟨ret_i (by unfold spCode; rw [if_neg (fun hc => hc ⟨by simp only [sideOk, decide_eq_true_eq]; rw [HLR.out]; omega, by simp only [sideOk, decide_eq_true_eq]; rw [HLC.out]; omega⟩), if_pos (by intro hc; have h1 := hc.2.2.1; have h2 := hc.2.2.2; simp only [shOk, decide_eq_true_eq] at h1 h2; omega)]), by first | exact H12.out.below | exact H12.out.below'⟩
          · skip
            by_cases c16 : (24 : Int) < shift
            · skip
              go_wp2_with fail
              go_ret
              exact ⟨ret_i (by unfold spCode; rw [if_neg (fun hc => hc ⟨by simp only [sideOk, decide_eq_true_eq]; rw [HLR.out]; omega, by simp only [sideOk, decide_eq_true_eq]; rw [HLC.out]; omega⟩), if_pos (by intro hc; have h1 := hc.2.2.1; have h2 := hc.2.2.2; simp only [shOk, decide_eq_true_eq] at h1 h2; omega)]), by first | exact H12.out.below | exact H12.out.below'⟩
            · skip
              by_cases c17 : (shift2 : Int) < 0
              · skip
                go_wp2_with fail
                go_ret
                exact ⟨ret_i (by unfold spCode; rw [if_neg (fun hc => hc ⟨by simp only [sideOk, decide_eq_true_eq]; rw [HLR.out]; omega, by simp only [sideOk, decide_eq_true_eq]; rw [HLC.out]; omega⟩), if_pos (by intro hc; have h1 := hc.2.2.1; have h2 := hc.2.2.2; simp only [shOk, decide_eq_true_eq] at h1 h2; omega)]), by first | exact H12.out.below | exact H12.out.below'⟩
              · skip
                by_cases c18 : (24 : Int) < shift2
                · skip
                  go_wp2_with fail
                  go_ret
                  exact ⟨ret_i (by unfold spCode; rw [if_neg (fun hc => hc ⟨by simp only [sideOk, decide_eq_true_eq]; rw [HLR.out]; omega, by simp only [sideOk, decide_eq_true_eq]; rw [HLC.out]; omega⟩), if_pos (by intro hc; have h1 := hc.2.2.1; have h2 := hc.2.2.2; simp only [shOk, decide_eq_true_eq] at h1 h2; omega)]), by first | exact H12.out.below | exact H12.out.below'⟩
                · skip
                  by_cases c19 : (mx : Int) < 1
                  · skip
                    go_wp2_with fail
                    go_ret
                    exact ⟨ret_i (by unfold spCode; rw [if_neg (fun hc => hc ⟨by simp only [sideOk, decide_eq_true_eq]; rw [HLR.out]; omega, by simp only [sideOk, decide_eq_true_eq]; rw [HLC.out]; omega⟩), if_neg (fun hc => hc ⟨(wCode_zero.1 (by rw [HNk9.out]; have := c10h.out; have := c14h.out; omega)).2.2, (wCode_zero.1 (by rw [HNk13.out]; have := c10h.out; have := c14h.out; omega)).2.2, by simp only [shOk, decide_eq_true_eq]; omega, by simp only [shOk, decide_eq_true_eq]; omega⟩), if_pos (by simp only [valOk, decide_eq_true_eq]; omega)]), by first | exact H12.out.below | exact H12.out.below'⟩
                  · skip
                    by_cases c20 : (4294967296 : Int) < mx
                    · skip
                      go_wp2_with fail
                      go_ret
                      exact ⟨ret_i (by unfold spCode; rw [if_neg (fun hc => hc ⟨by simp only [sideOk, decide_eq_true_eq]; rw [HLR.out]; omega, by simp only [sideOk, decide_eq_true_eq]; rw [HLC.out]; omega⟩), if_neg (fun hc => hc ⟨(wCode_zero.1 (by rw [HNk9.out]; have := c10h.out; have := c14h.out; omega)).2.2, (wCode_zero.1 (by rw [HNk13.out]; have := c10h.out; have := c14h.out; omega)).2.2, by simp only [shOk, decide_eq_true_eq]; omega, by simp only [shOk, decide_eq_true_eq]; omega⟩), if_pos (by simp only [valOk, decide_eq_true_eq]; omega)]), by first | exact H12.out.below | exact H12.out.below'⟩
                    · skip
                      by_cases c21 : (out : Int) < 1
                      · skip
                        go_wp2_with fail
                        go_ret
                        exact ⟨ret_i (by unfold spCode; rw [if_neg (fun hc => hc ⟨by simp only [sideOk, decide_eq_true_eq]; rw [HLR.out]; omega, by simp only [sideOk, decide_eq_true_eq]; rw [HLC.out]; omega⟩), if_neg (fun hc => hc ⟨(wCode_zero.1 (by rw [HNk9.out]; have := c10h.out; have := c14h.out; omega)).2.2, (wCode_zero.1 (by rw [HNk13.out]; have := c10h.out; have := c14h.out; omega)).2.2, by simp only [shOk, decide_eq_true_eq]; omega, by simp only [shOk, decide_eq_true_eq]; omega⟩), if_pos (by simp only [valOk, decide_eq_true_eq]; omega)]), by first | exact H12.out.below | exact H12.out.below'⟩
                      · skip
                        by_cases c22 : (4294967296 : Int) < out
                        · skip
                          go_wp2_with fail
                          go_ret
                          exact ⟨ret_i (by unfold spCode; rw [if_neg (fun hc => hc ⟨by simp only [sideOk, decide_eq_true_eq]; rw [HLR.out]; omega, by simp only [sideOk, decide_eq_true_eq]; rw [HLC.out]; omega⟩), if_neg (fun hc => hc ⟨(wCode_zero.1 (by rw [HNk9.out]; have := c10h.out; have := c14h.out; omega)).2.2, (wCode_zero.1 (by rw [HNk13.out]; have := c10h.out; have := c14h.out; omega)).2.2, by simp only [shOk, decide_eq_true_eq]; omega, by simp only [shOk, decide_eq_true_eq]; omega⟩), if_pos (by simp only [valOk, decide_eq_true_eq]; omega)]), by first | exact H12.out.below | exact H12.out.below'⟩
                        · skip
                          go_wp2_with fail
                          refine (fbounds_any _ _ _ _ _ _ _ (H12.out.old HR.out)).mono ?_
                          rintro e w23 ⟨rfl, hb⟩
                          have H24 := hid (H12.out.call hb)
                          clear hb
                          obtain ⟨x25, hx25⟩ : ∃ xx', bdLo row 0 mx = xx' := ⟨_, rfl⟩
                          rw [hx25]
                          have HNx25 := hid hx25
                          clear hx25
                          obtain ⟨x26, hx26⟩ : ∃ xx', bdHi row 0 mx = xx' := ⟨_, rfl⟩
                          rw [hx26]
                          have HNx26 := hid hx26
                          clear hx26
                          obtain ⟨b27, hb27⟩ : ∃ xx', bdOk row 0 mx = xx' := ⟨_, rfl⟩
                          rw [hb27]
                          have HNb27 := hid hb27
                          clear hb27
                          cases b27 with
                          | true =>
                            go_wp2_with fail
                            refine (fspan_any _ _ _ _).mono ?_
                            rintro e w28 ⟨rfl, hsw⟩
                            have hsw2 : w23 = w28 := by first | exact hsw | exact hsw.symm
                            clear hsw
                            subst hsw2
                            obtain ⟨s29, hs29⟩ : ∃ xx', shV x25 shift = xx' := ⟨_, rfl⟩
                            rw [hs29]
                            have HNs29 := hid hs29
                            clear hs29
                            obtain ⟨s30, hs30⟩ : ∃ xx', shV x26 shift = xx' := ⟨_, rfl⟩
                            rw [hs30]
                            have HNs30 := hid hs30
                            clear hs30
                            go_wp2_with fail
                            refine (fbounds_any _ _ _ _ _ _ _ (H24.out.old HC.out)).mono ?_
                            rintro e w31 ⟨rfl, hb⟩
                            have H32 := hid (H24.out.call hb)
                            clear hb
                            obtain ⟨x33, hx33⟩ : ∃ xx', bdLo col s29 s30 = xx' := ⟨_, rfl⟩
                            rw [hx33]
                            have HNx33 := hid hx33
                            clear hx33
                            obtain ⟨x34, hx34⟩ : ∃ xx', bdHi col s29 s30 = xx' := ⟨_, rfl⟩
                            rw [hx34]
                            have HNx34 := hid hx34
                            clear hx34
                            obtain ⟨b35, hb35⟩ : ∃ xx', bdOk col s29 s30 = xx' := ⟨_, rfl⟩
                            rw [hb35]
                            have HNb35 := hid hb35
                            clear hb35
                            cases b35 with
                            | true =>
                              go_wp2_with fail
                              go_ret
                              exact ⟨ret_i (by unfold spCode; rw [if_neg (fun hc => hc ⟨by simp only [sideOk, decide_eq_true_eq]; rw [HLR.out]; omega, by simp only [sideOk, decide_eq_true_eq]; rw [HLC.out]; omega⟩), if_neg (fun hc => hc ⟨(wCode_zero.1 (by rw [HNk9.out]; have := c10h.out; have := c14h.out; omega)).2.2, (wCode_zero.1 (by rw [HNk13.out]; have := c10h.out; have := c14h.out; omega)).2.2, by simp only [shOk, decide_eq_true_eq]; omega, by simp only [shOk, decide_eq_true_eq]; omega⟩), if_neg (by simp only [valOk, decide_eq_true_eq]; omega), if_neg (by rw [HNb27.out]; simp), if_neg (by rw [← (bdOk_yes HNb27.out).1, ← (bdOk_yes HNb27.out).2, HNx25.out, HNx26.out, HNs29.out, HNs30.out, HNb35.out]; simp)]), by first | exact H32.out.below | exact H32.out.below'⟩
                            | false =>
                              go_wp2_with fail
                              go_ret
                              exact ⟨ret_i (by unfold spCode; rw [if_neg (fun hc => hc ⟨by simp only [sideOk, decide_eq_true_eq]; rw [HLR.out]; omega, by simp only [sideOk, decide_eq_true_eq]; rw [HLC.out]; omega⟩), if_neg (fun hc => hc ⟨(wCode_zero.1 (by rw [HNk9.out]; have := c10h.out; have := c14h.out; omega)).2.2, (wCode_zero.1 (by rw [HNk13.out]; have := c10h.out; have := c14h.out; omega)).2.2, by simp only [shOk, decide_eq_true_eq]; omega, by simp only [shOk, decide_eq_true_eq]; omega⟩), if_neg (by simp only [valOk, decide_eq_true_eq]; omega), if_neg (by rw [HNb27.out]; simp), if_pos (by rw [← (bdOk_yes HNb27.out).1, ← (bdOk_yes HNb27.out).2, HNx25.out, HNx26.out, HNs29.out, HNs30.out, HNb35.out])]), by first | exact H32.out.below | exact H32.out.below'⟩
                          | false =>
                            go_wp2_with fail
                            go_ret
                            exact ⟨ret_i (by unfold spCode; rw [if_neg (fun hc => hc ⟨by simp only [sideOk, decide_eq_true_eq]; rw [HLR.out]; omega, by simp only [sideOk, decide_eq_true_eq]; rw [HLC.out]; omega⟩), if_neg (fun hc => hc ⟨(wCode_zero.1 (by rw [HNk9.out]; have := c10h.out; have := c14h.out; omega)).2.2, (wCode_zero.1 (by rw [HNk13.out]; have := c10h.out; have := c14h.out; omega)).2.2, by simp only [shOk, decide_eq_true_eq]; omega, by simp only [shOk, decide_eq_true_eq]; omega⟩), if_neg (by simp only [valOk, decide_eq_true_eq]; omega), if_pos HNb27.out]), by first | exact H24.out.below | exact H24.out.below'⟩
        · have c14a : ((k13 : Int) == (0)) = false := by simpa using c14
          have c14b : ((k13 : Int) != (0)) = true := by simpa using c14
          have c14h := hid c14
          clear c14
          go_wp2_with fail
          go_ret
          exact ⟨ret_i (by unfold spCode; rw [if_neg (fun hc => hc ⟨by simp only [sideOk, decide_eq_true_eq]; rw [HLR.out]; omega, by simp only [sideOk, decide_eq_true_eq]; rw [HLC.out]; omega⟩), if_pos (by intro hc; have h2 := wCode_zero.2 ⟨by rw [HLC.out]; omega, by rw [HLC.out]; omega, hc.2.1⟩; rw [HNk13.out] at h2; have := c10h.out; have := c14h.out; omega)]), by first | exact H12.out.below | exact H12.out.below'⟩
      · have c10a : ((k9 : Int) == (0)) = false := by simpa using c10
        have c10b : ((k9 : Int) != (0)) = true := by simpa using c10
        have c10h := hid c10
        clear c10
        go_wp2_with fail
        go_ret
        exact ⟨ret_i (by unfold spCode; rw [if_neg (fun hc => hc ⟨by simp only [sideOk, decide_eq_true_eq]; rw [HLR.out]; omega, by simp only [sideOk, decide_eq_true_eq]; rw [HLC.out]; omega⟩), if_pos (by intro hc; have h2 := wCode_zero.2 ⟨by rw [HLR.out]; omega, by rw [HLR.out]; omega, hc.1⟩; rw [HNk9.out] at h2; have := c10h.out; omega)]), by first | exact H8.out.below | exact H8.out.below'⟩

set_option maxRecDepth 100000 in
set_option maxHeartbeats 6400000 in
theorem rscheck_any (mx shift shift2 out : Int) (ra : Option Addr) (rn rc : Nat) (row : List Int) (ca : Option Addr) (cn cc : Nat) (col : List Int) (W : World) (hr : Slc W ra rn rc row) (hc : Slc W ca cn cc col) :
    Calls Try.prog 13 #[.int .i64 mx, .slice ra rn rc, .slice ca cn cc, .int .i64 shift, .int .i64 shift2, .int .i64 out] W fun e w' => e = .returned (.int .i64 (spCode mx row col shift shift2 out)) ∧ Below W.heap.size W w' := by
  obtain ⟨B, hB⟩ : ∃ B, W.heap.size = B := ⟨_, rfl⟩
  have HI0 := hid (St.init hB)
  have HR := hid hr
  have HC := hid hc
  have HLR := hid hr.len
  have HLC := hid hc.len
  have rnm : (rn : Int) ≤ 9223372036854775807 := by have := hr.nc; have := hr.cap; omega
  have cnm : (cn : Int) ≤ 9223372036854775807 := by have := hc.nc; have := hc.cap; omega
  clear hr hc
  go_enter Try.func13, Try.ntmps13
  go_wp2_with fail
  refine (rside_any _ _).mono ?_
  rintro e w36 ⟨rfl, hsw⟩
  have hsw2 : W = w36 := by first | exact hsw | exact hsw.symm
  clear hsw
  subst hsw2
  obtain ⟨b37, hb37⟩ : ∃ xx', sideOk (rn : Int) = xx' := ⟨_, rfl⟩
  rw [hb37]
  have HNb37 := hid hb37
  clear hb37
  cases b37 with
  | true =>
    go_wp2_with fail
    refine (rside_any _ _).mono ?_
    rintro e w38 ⟨rfl, hsw⟩
    have hsw2 : W = w38 := by first | exact hsw | exact hsw.symm
    clear hsw
    subst hsw2
    obtain ⟨b39, hb39⟩ : ∃ xx', sideOk (cn : Int) = xx' := ⟨_, rfl⟩
    rw [hb39]
    have HNb39 := hid hb39
    clear hb39
    cases b39 with
    | true =>
      go_wp2_with fail
      refine (rareweights_any _ _ _ _ _ (HI0.out.old HR.out)).mono ?_
      rintro e w40 ⟨rfl, hb⟩
      have H41 := hid (HI0.out.call hb)
      clear hb
      obtain ⟨b42, hb42⟩ : ∃ xx', wAll row = xx' := ⟨_, rfl⟩
      rw [hb42]
      have HNb42 := hid hb42
      clear hb42
      cases b42 with
      | true =>
        go_wp2_with fail
        refine (rareweights_any _ _ _ _ _ (H41.out.old HC.out)).mono ?_
        rintro e w43 ⟨rfl, hb⟩
        have H44 := hid (H41.out.call hb)
        clear hb
        obtain ⟨b45, hb45⟩ : ∃ xx', wAll col = xx' := ⟨_, rfl⟩
        rw [hb45]
        have HNb45 := hid hb45
        clear hb45
        cases b45 with
        | true =>
          go_wp2_with fail
          refine (rshok_any _ _).mono ?_
          rintro e w46 ⟨rfl, hsw⟩
          have hsw2 : w43 = w46 := by first | exact hsw | exact hsw.symm
          clear hsw
          subst hsw2
          obtain ⟨b47, hb47⟩ : ∃ xx', shOk shift = xx' := ⟨_, rfl⟩
          rw [hb47]
          have HNb47 := hid hb47
          clear hb47
          cases b47 with
          | true =>
            go_wp2_with fail
            refine (rshok_any _ _).mono ?_
            rintro e w48 ⟨rfl, hsw⟩
            have hsw2 : w43 = w48 := by first | exact hsw | exact hsw.symm
            clear hsw
            subst hsw2
            obtain ⟨b49, hb49⟩ : ∃ xx', shOk shift2 = xx' := ⟨_, rfl⟩
            rw [hb49]
            have HNb49 := hid hb49
            clear hb49
            cases b49 with
            | true =>
              go_wp2_with fail
              refine (rval_any _ _).mono ?_
              rintro e w50 ⟨rfl, hsw⟩
              have hsw2 : w43 = w50 := by first | exact hsw | exact hsw.symm
              clear hsw
              subst hsw2
              obtain ⟨b51, hb51⟩ : ∃ xx', valOk mx = xx' := ⟨_, rfl⟩
              rw [hb51]
              have HNb51 := hid hb51
              clear hb51
              cases b51 with
              | true =>
                go_wp2_with fail
                refine (rval_any _ _).mono ?_
                rintro e w52 ⟨rfl, hsw⟩
                have hsw2 : w43 = w52 := by first | exact hsw | exact hsw.symm
                clear hsw
                subst hsw2
                obtain ⟨b53, hb53⟩ : ∃ xx', valOk out = xx' := ⟨_, rfl⟩
                rw [hb53]
                have HNb53 := hid hb53
                clear hb53
                cases b53 with
                | true =>
                  go_wp2_with fail
                  refine (rbounds_any _ _ _ _ _ _ _ (H44.out.old HR.out)).mono ?_
                  rintro e w54 ⟨rfl, hb⟩
                  have H55 := hid (H44.out.call hb)
                  clear hb
                  obtain ⟨x56, hx56⟩ : ∃ xx', bdLo row 0 mx = xx' := ⟨_, rfl⟩
                  rw [hx56]
                  have HNx56 := hid hx56
                  clear hx56
                  obtain ⟨x57, hx57⟩ : ∃ xx', bdHi row 0 mx = xx' := ⟨_, rfl⟩
                  rw [hx57]
                  have HNx57 := hid hx57
                  clear hx57
                  obtain ⟨b58, hb58⟩ : ∃ xx', bdOk row 0 mx = xx' := ⟨_, rfl⟩
                  rw [hb58]
                  have HNb58 := hid hb58
                  clear hb58
                  cases b58 with
                  | true =>
                    go_wp2_with fail
                    refine (rspan_any _ _ _ _).mono ?_
                    rintro e w59 ⟨rfl, hsw⟩
                    have hsw2 : w54 = w59 := by first | exact hsw | exact hsw.symm
                    clear hsw
                    subst hsw2
                    obtain ⟨s60, hs60⟩ : ∃ xx', shV x56 shift = xx' := ⟨_, rfl⟩
                    rw [hs60]
                    have HNs60 := hid hs60
                    clear hs60
                    obtain ⟨s61, hs61⟩ : ∃ xx', shV x57 shift = xx' := ⟨_, rfl⟩
                    rw [hs61]
                    have HNs61 := hid hs61
                    clear hs61
                    go_wp2_with fail
                    refine (rbounds_any _ _ _ _ _ _ _ (H55.out.old HC.out)).mono ?_
                    rintro e w62 ⟨rfl, hb⟩
                    have H63 := hid (H55.out.call hb)
                    clear hb
                    obtain ⟨x64, hx64⟩ : ∃ xx', bdLo col s60 s61 = xx' := ⟨_, rfl⟩
                    rw [hx64]
                    have HNx64 := hid hx64
                    clear hx64
                    obtain ⟨x65, hx65⟩ : ∃ xx', bdHi col s60 s61 = xx' := ⟨_, rfl⟩
                    rw [hx65]
                    have HNx65 := hid hx65
                    clear hx65
                    obtain ⟨b66, hb66⟩ : ∃ xx', bdOk col s60 s61 = xx' := ⟨_, rfl⟩
                    rw [hb66]
                    have HNb66 := hid hb66
                    clear hb66
                    cases b66 with
                    | true =>
                      go_wp2_with fail
                      go_ret
                      exact ⟨ret_i (by unfold spCode; rw [if_neg (fun hc => hc ⟨by rw [HLR.out]; exact HNb37.out, by rw [HLC.out]; exact HNb39.out⟩), if_neg (fun hc => hc ⟨HNb42.out, HNb45.out, HNb47.out, HNb49.out⟩), if_neg (fun hc => hc ⟨HNb51.out, HNb53.out⟩), if_neg (by rw [HNb58.out]; simp), if_neg (by rw [← (bdOk_yes HNb58.out).1, ← (bdOk_yes HNb58.out).2, HNx56.out, HNx57.out, HNs60.out, HNs61.out, HNb66.out]; simp)]), by first | exact H63.out.below | exact H63.out.below'⟩
                    | false =>
                      go_wp2_with fail
                      go_ret
                      exact ⟨ret_i (by unfold spCode; rw [if_neg (fun hc => hc ⟨by rw [HLR.out]; exact HNb37.out, by rw [HLC.out]; exact HNb39.out⟩), if_neg (fun hc => hc ⟨HNb42.out, HNb45.out, HNb47.out, HNb49.out⟩), if_neg (fun hc => hc ⟨HNb51.out, HNb53.out⟩), if_neg (by rw [HNb58.out]; simp), if_pos (by rw [← (bdOk_yes HNb58.out).1, ← (bdOk_yes HNb58.out).2, HNx56.out, HNx57.out, HNs60.out, HNs61.out, HNb66.out])]), by first | exact H63.out.below | exact H63.out.below'⟩
                  | false =>
                    go_wp2_with fail
                    go_ret
                    exact ⟨ret_i (by unfold spCode; rw [if_neg (fun hc => hc ⟨by rw [HLR.out]; exact HNb37.out, by rw [HLC.out]; exact HNb39.out⟩), if_neg (fun hc => hc ⟨HNb42.out, HNb45.out, HNb47.out, HNb49.out⟩), if_neg (fun hc => hc ⟨HNb51.out, HNb53.out⟩), if_pos HNb58.out]), by first | exact H55.out.below | exact H55.out.below'⟩
                | false =>
                  go_wp2_with fail
                  go_ret
                  exact ⟨ret_i (by unfold spCode; rw [if_neg (fun hc => hc ⟨by rw [HLR.out]; exact HNb37.out, by rw [HLC.out]; exact HNb39.out⟩), if_neg (fun hc => hc ⟨HNb42.out, HNb45.out, HNb47.out, HNb49.out⟩), if_pos (by intro hc; have h := hc.2; rw [HNb53.out] at h; cases h)]), by first | exact H44.out.below | exact H44.out.below'⟩
              | false =>
                go_wp2_with fail
                go_ret
                exact ⟨ret_i (by unfold spCode; rw [if_neg (fun hc => hc ⟨by rw [HLR.out]; exact HNb37.out, by rw [HLC.out]; exact HNb39.out⟩), if_neg (fun hc => hc ⟨HNb42.out, HNb45.out, HNb47.out, HNb49.out⟩), if_pos (by intro hc; have h := hc.1; rw [HNb51.out] at h; cases h)]), by first | exact H44.out.below | exact H44.out.below'⟩
            | false =>
              go_wp2_with fail
              go_ret
              exact ⟨ret_i (by unfold spCode; rw [if_neg (fun hc => hc ⟨by rw [HLR.out]; exact HNb37.out, by rw [HLC.out]; exact HNb39.out⟩), if_pos (by intro hc; have h := hc.2.2.2; rw [HNb49.out] at h; cases h)]), by first | exact H44.out.below | exact H44.out.below'⟩
          | false =>
            go_wp2_with fail
            go_ret
            exact ⟨ret_i (by unfold spCode; rw [if_neg (fun hc => hc ⟨by rw [HLR.out]; exact HNb37.out, by rw [HLC.out]; exact HNb39.out⟩), if_pos (by intro hc; have h := hc.2.2.1; rw [HNb47.out] at h; cases h)]), by first | exact H44.out.below | exact H44.out.below'⟩
        | false =>
          go_wp2_with fail
          go_ret
          exact ⟨ret_i (by unfold spCode; rw [if_neg (fun hc => hc ⟨by rw [HLR.out]; exact HNb37.out, by rw [HLC.out]; exact HNb39.out⟩), if_pos (by intro hc; have h := hc.2.1; rw [HNb45.out] at h; cases h)]), by first | exact H44.out.below | exact H44.out.below'⟩
      | false =>
        go_wp2_with fail
        go_ret
        exact ⟨ret_i (by unfold spCode; rw [if_neg (fun hc => hc ⟨by rw [HLR.out]; exact HNb37.out, by rw [HLC.out]; exact HNb39.out⟩), if_pos (by intro hc; have h := hc.1; rw [HNb42.out] at h; cases h)]), by first | exact H41.out.below | exact H41.out.below'⟩
    | false =>
      go_wp2_with fail
      go_ret
      exact ⟨ret_i (by unfold spCode; rw [if_pos (by intro hc; have h := hc.2; rw [HLC.out] at h; rw [HNb39.out] at h; cases h)]), by first | exact HI0.out.below | exact HI0.out.below'⟩
  | false =>
    go_wp2_with fail
    go_ret
    exact ⟨ret_i (by unfold spCode; rw [if_pos (by intro hc; have h := hc.1; rw [HLR.out] at h; rw [HNb37.out] at h; cases h)]), by first | exact HI0.out.below | exact HI0.out.below'⟩
end Go.Proofs.Ytfdkgjphnlijiaa
