/-
 Contracts: the errors of row and column kernels, in the program and in the reference.
-/
import Derived.Test.YteejjnhlfgjlaaaSpPlain
import Derived.Test.YteejjnhlfgjlaaaKN
namespace Go.Proofs.Yteejjnhlfgjlaaa
open Go.RowKit
attribute [local go_sem ↓] Go.wp_at_zero Go.wp_at_succ
set_option linter.unusedVariables false
set_option linter.unusedSimpArgs false

theorem idx2_0 (x y : Value) (w : World) : (Instr.index 80 (.agg #[x, y]) (.int .i64 0)).run Try.prog w = .ok x w := by
 have h := Try.underlying80
 simp [Instr.index, run_underlying h, asIntOf, go_sem]
theorem idx2_1 (x y : Value) (w : World) : (Instr.index 80 (.agg #[x, y]) (.int .i64 1)).run Try.prog w = .ok y w := by
 have h := Try.underlying80
 simp [Instr.index, run_underlying h, asIntOf, go_sem]
attribute [local go_sem ↓] idx2_0 idx2_1

set_option maxRecDepth 100000 in
set_option maxHeartbeats 6400000 in
theorem scheck_any (mx shift shift2 out : Int) (ra : Option Addr) (rn rc : Nat) (row : List Int) (ca : Option Addr) (cn cc : Nat) (col : List Int) (W : World) (hr : Slc W ra rn rc row) (hc : Slc W ca cn cc col) :
    Calls Try.prog 41 #[.int .i64 mx, .slice ra rn rc, .slice ca cn cc, .int .i64 shift, .int .i64 shift2, .int .i64 out] W fun e w' => e = .returned (.int .i64 (spCode mx row col shift shift2 out)) ∧ Below W.heap.size W w' := by
  obtain ⟨B, hB⟩ : ∃ B, W.heap.size = B := ⟨_, rfl⟩
  have HI0 := hid (St.init hB)
  have HR := hid hr
  have HC := hid hc
  have HLR := hid hr.len
  have HLC := hid hc.len
  have rnm : (rn : Int) ≤ 9223372036854775807 := by have := hr.nc; have := hr.cap; omega
  have cnm : (cn : Int) ≤ 9223372036854775807 := by have := hc.nc; have := hc.cap; omega
  clear hr hc
  go_enter Try.func41, Try.ntmps41
  go_wp2_with fail
  go_loopw [24] (fun i wr => ∃ j : Nat, j ≤ 2 ∧ i = .int .i64 j ∧ (1 ≤ j → 1 ≤ rn ∧ rn ≤ 9) ∧ (2 ≤ j → 1 ≤ cn ∧ cn ≤ 9) ∧ St B W [] [] wr) (fun i _ => 2 - (intOf i).toNat)
  case atStart => exact ⟨0, by omega, rfl, fun h => by omega, fun h => by omega, HI0.out⟩
  case round =>
    obtain ⟨j, hj, rfl, hrn, hcn, hst⟩ := hrel
    obtain ⟨u1, rfl⟩ : ∃ u1 : World, u1 = wr := ⟨_, rfl⟩
    have H2 := hid hst
    clear hst
    have HRN := hid hrn
    have HCN := hid hcn
    clear hrn hcn
    rcases (show j = 0 ∨ j = 1 ∨ j = 2 by omega) with hj' | hj' | hj'
    · skip
      subst hj'
      by_cases c3 : (rn : Int) = 0
      · obtain ⟨c3c, c3d⟩ : (rn : Int) ≤ 0 ∧ (0 : Int) ≤ rn := by omega
        have c3a : ((rn : Int) == (0)) = true := by simpa using c3
        have c3b : ((rn : Int) != (0)) = false := by simpa using c3
        have c3h := hid c3
        clear c3
        go_wp2_with fail
        go_ret
        exact ⟨ret_i (by unfold spCode; rw [if_pos (by intro hc; have h1 := hc.1; have h2 := hc.2; simp only [sideOk, decide_eq_true_eq] at h1 h2; rw [HLR.out] at h1; rw [HLC.out] at h2; have := c3h.out; omega)]), by first | exact H2.out.below | exact H2.out.below'⟩
      · have c3a : ((rn : Int) == (0)) = false := by simpa using c3
        have c3b : ((rn : Int) != (0)) = true := by simpa using c3
        have c3h := hid c3
        clear c3
        by_cases c4 : (9 : Int) < rn
        · skip
          go_wp2_with fail
          go_ret
          exact ⟨ret_i (by unfold spCode; rw [if_pos (by intro hc; have h1 := hc.1; have h2 := hc.2; simp only [sideOk, decide_eq_true_eq] at h1 h2; rw [HLR.out] at h1; rw [HLC.out] at h2; have := c3h.out; omega)]), by first | exact H2.out.below | exact H2.out.below'⟩
        · skip
          go_wp2_with fail
          go_roundw
          case rel => exact ⟨1, by omega, by first | rfl | go_num, fun h => by first | exact HRN.out (by omega) | (have := c3h.out; omega), fun h => by first | (exfalso; omega) | (have := c3h.out; omega), H2.out⟩
          case measure => first | (simp [intOf]; omega) | (simp [intOf]; done)
    · skip
      subst hj'
      by_cases c5 : (cn : Int) = 0
      · obtain ⟨c5c, c5d⟩ : (cn : Int) ≤ 0 ∧ (0 : Int) ≤ cn := by omega
        have c5a : ((cn : Int) == (0)) = true := by simpa using c5
        have c5b : ((cn : Int) != (0)) = false := by simpa using c5
        have c5h := hid c5
        clear c5
        go_wp2_with fail
        go_ret
        exact ⟨ret_i (by unfold spCode; rw [if_pos (by intro hc; have h1 := hc.1; have h2 := hc.2; simp only [sideOk, decide_eq_true_eq] at h1 h2; rw [HLR.out] at h1; rw [HLC.out] at h2; have := c5h.out; omega)]), by first | exact H2.out.below | exact H2.out.below'⟩
      · have c5a : ((cn : Int) == (0)) = false := by simpa using c5
        have c5b : ((cn : Int) != (0)) = true := by simpa using c5
        have c5h := hid c5
        clear c5
        by_cases c6 : (9 : Int) < cn
        · skip
          go_wp2_with fail
          go_ret
          exact ⟨ret_i (by unfold spCode; rw [if_pos (by intro hc; have h1 := hc.1; have h2 := hc.2; simp only [sideOk, decide_eq_true_eq] at h1 h2; rw [HLR.out] at h1; rw [HLC.out] at h2; have := c5h.out; omega)]), by first | exact H2.out.below | exact H2.out.below'⟩
        · skip
          go_wp2_with fail
          go_roundw
          case rel => exact ⟨2, by omega, by first | rfl | go_num, fun h => by first | exact HRN.out (by omega) | (have := c5h.out; omega), fun h => by first | (exfalso; omega) | (have := c5h.out; omega), H2.out⟩
          case measure => first | (simp [intOf]; omega) | (simp [intOf]; done)
    · skip
      subst hj'
      obtain ⟨rn1, rn2⟩ := HRN.out (by omega)
      obtain ⟨cn1, cn2⟩ := HCN.out (by omega)
      go_wp2_with fail
      refine (fweights_any _ _ _ _ _ (H2.out.old HR.out)).mono ?_
      rintro e w7 ⟨rfl, hb⟩
      have H8 := hid (H2.out.call hb)
      clear hb
      obtain ⟨k9, hk9⟩ : ∃ xx', wCode row = xx' := ⟨_, rfl⟩
      rw [hk9]
      have HNk9 := hid hk9
      clear hk9
      by_cases c10 : (k9 : Int) = 0
      · obtain ⟨c10c, c10d⟩ : (k9 : Int) ≤ 0 ∧ (0 : Int) ≤ k9 := by omega
        have c10a : ((k9 : Int) == (0)) = true := by simpa using c10
        have c10b : ((k9 : Int) != (0)) = false := by simpa using c10
        have c10h := hid c10
        clear c10
        go_wp2_with fail
        refine (fweights_any _ _ _ _ _ (H8.out.old HC.out)).mono ?_
        rintro e w11 ⟨rfl, hb⟩
        have H12 := hid (H8.out.call hb)
        clear hb
        obtain ⟨k13, hk13⟩ : ∃ xx', wCode col = xx' := ⟨_, rfl⟩
        rw [hk13]
        have HNk13 := hid hk13
        clear hk13
        by_cases c14 : (k13 : Int) = 0
        · obtain ⟨c14c, c14d⟩ : (k13 : Int) ≤ 0 ∧ (0 : Int) ≤ k13 := by omega
          have c14a : ((k13 : Int) == (0)) = true := by simpa using c14
          have c14b : ((k13 : Int) != (0)) = false := by simpa using c14
          have c14h := hid c14
          clear c14
          by_cases c15 : (shift : Int) < 0
          · skip
            go_wp2_with fail
            go_ret
            exact ⟨ret_i (by unfold spCode; rw [if_neg (fun hc => hc ⟨by simp only [sideOk, decide_eq_true_eq]; rw [HLR.out]; omega, by simp only [sideOk, decide_eq_true_eq]; rw [HLC.out]; omega⟩), if_pos (by intro hc; have h1 := hc.2.2.1; have h2 := hc.2.2.2; simp only [shOk, decide_eq_true_eq] at h1 h2; omega)]), by first | exact H12.out.below | exact H12.out.below'⟩
          · skip
            by_cases c16 : (24 : Int) < shift
            · skip
              go_wp2_with fail
              go_ret
              exact ⟨ret_i (by unfold spCode; rw [if_neg (fun hc => hc ⟨by simp only [sideOk, decide_eq_true_eq]; rw [HLR.out]; omega, by simp only [sideOk, decide_eq_true_eq]; rw [HLC.out]; omega⟩), if_pos (by intro hc; have h1 := hc.2.2.1; have h2 := hc.2.2.2; simp only [shOk, decide_eq_true_eq] at h1 h2; omega)]), by first | exact H12.out.below | exact H12.out.below'⟩
            · skip
              by_cases c17 : (shift2 : Int) < 0
              · skip
                go_wp2_with fail
                go_ret
                exact ⟨ret_i (by unfold spCode; rw [if_neg (fun hc => hc ⟨by simp only [sideOk, decide_eq_true_eq]; rw [HLR.out]; omega, by simp only [sideOk, decide_eq_true_eq]; rw [HLC.out]; omega⟩), if_pos (by intro hc; have h1 := hc.2.2.1; have h2 := hc.2.2.2; simp only [shOk, decide_eq_true_eq] at h1 h2; omega)]), by first | exact H12.out.below | exact H12.out.below'⟩
              · skip
                by_cases c18 : (24 : Int) < shift2
                · skip
                  go_wp2_with fail
                  go_ret
                  exact ⟨ret_i (by unfold spCode; rw [if_neg (fun hc => hc ⟨by simp only [sideOk, decide_eq_true_eq]; rw [HLR.out]; omega, by simp only [sideOk, decide_eq_true_eq]; rw [HLC.out]; omega⟩), if_pos (by intro hc; have h1 := hc.2.2.1; have h2 := hc.2.2.2; simp only [shOk, decide_eq_true_eq] at h1 h2; omega)]), by first | exact H12.out.below | exact H12.out.below'⟩
                · skip
                  by_cases c19 : (mx : Int) < 1
                  · skip
                    go_wp2_with fail
                    go_ret
                    exact ⟨ret_i (by unfold spCode; rw [if_neg (fun hc => hc ⟨by simp only [sideOk, decide_eq_true_eq]; rw [HLR.out]; omega, by simp only [sideOk, decide_eq_true_eq]; rw [HLC.out]; omega⟩), if_neg (fun hc => hc ⟨(wCode_zero.1 (by rw [HNk9.out]; have := c10h.out; have := c14h.out; omega)).2.2, (wCode_zero.1 (by rw [HNk13.out]; have := c10h.out; have := c14h.out; omega)).2.2, by simp only [shOk, decide_eq_true_eq]; omega, by simp only [shOk, decide_eq_true_eq]; omega⟩), if_pos (by simp only [valOk, decide_eq_true_eq]; omega)]), by first | exact H12.out.below | exact H12.out.below'⟩
                  · skip
                    by_cases c20 : (4294967296 : Int) < mx
                    · skip
                      go_wp2_with fail
                      go_ret
                      exact ⟨ret_i (by unfold spCode; rw [if_neg (fun hc => hc ⟨by simp only [sideOk, decide_eq_true_eq]; rw [HLR.out]; omega, by simp only [sideOk, decide_eq_true_eq]; rw [HLC.out]; omega⟩), if_neg (fun hc => hc ⟨(wCode_zero.1 (by rw [HNk9.out]; have := c10h.out; have := c14h.out; omega)).2.2, (wCode_zero.1 (by rw [HNk13.out]; have := c10h.out; have := c14h.out; omega)).2.2, by simp only [shOk, decide_eq_true_eq]; omega, by simp only [shOk, decide_eq_true_eq]; omega⟩), if_pos (by simp only [valOk, decide_eq_true_eq]; omega)]), by first | exact H12.out.below | exact H12.out.below'⟩
                    · skip
                      by_cases c21 : (out : Int) < 1
                      · skip
                        go_wp2_with fail
                        go_ret
                        exact ⟨ret_i (by unfold spCode; rw [if_neg (fun hc => hc ⟨by simp only [sideOk, decide_eq_true_eq]; rw [HLR.out]; omega, by simp only [sideOk, decide_eq_true_eq]; rw [HLC.out]; omega⟩), if_neg (fun hc => hc ⟨(wCode_zero.1 (by rw [HNk9.out]; have := c10h.out; have := c14h.out; omega)).2.2, (wCode_zero.1 (by rw [HNk13.out]; have := c10h.out; have := c14h.out; omega)).2.2, by simp only [shOk, decide_eq_true_eq]; omega, by simp only [shOk, decide_eq_true_eq]; omega⟩), if_pos (by simp only [valOk, decide_eq_true_eq]; omega)]), by first | exact H12.out.below | exact H12.out.below'⟩
                      · skip
                        by_cases c22 : (4294967296 : Int) < out
                        · skip
                          go_wp2_with fail
                          go_ret
                          exact ⟨ret_i (by unfold spCode; rw [if_neg (fun hc => hc ⟨by simp only [sideOk, decide_eq_true_eq]; rw [HLR.out]; omega, by simp only [sideOk, decide_eq_true_eq]; rw [HLC.out]; omega⟩), if_neg (fun hc => hc ⟨(wCode_zero.1 (by rw [HNk9.out]; have := c10h.out; have := c14h.out; omega)).2.2, (wCode_zero.1 (by rw [HNk13.out]; have := c10h.out; have := c14h.out; omega)).2.2, by simp only [shOk, decide_eq_true_eq]; omega, by simp only [shOk, decide_eq_true_eq]; omega⟩), if_pos (by simp only [valOk, decide_eq_true_eq]; omega)]), by first | exact H12.out.below | exact H12.out.below'⟩
                        · skip
                          go_wp2_with fail
                          refine (fbounds_any _ _ _ _ _ _ _ (H12.out.old HR.out)).mono ?_
                          rintro e w23 ⟨rfl, hb⟩
                          have H24 := hid (H12.out.call hb)
                          clear hb
                          obtain ⟨x25, hx25⟩ : ∃ xx', bdLo row 0 mx = xx' := ⟨_, rfl⟩
                          rw [hx25]
                          have HNx25 := hid hx25
                          clear hx25
                          obtain ⟨x26, hx26⟩ : ∃ xx', bdHi row 0 mx = xx' := ⟨_, rfl⟩
                          rw [hx26]
                          have HNx26 := hid hx26
                          clear hx26
                          obtain ⟨b27, hb27⟩ : ∃ xx', bdOk row 0 mx = xx' := ⟨_, rfl⟩
                          rw [hb27]
                          have HNb27 := hid hb27
                          clear hb27
                          cases b27 with
                          | true =>
                            go_wp2_with fail
                            refine (fspan_any _ _ _ _).mono ?_
                            rintro e w28 ⟨rfl, hsw⟩
                            have hsw2 : w23 = w28 := by first | exact hsw | exact hsw.symm
                            clear hsw
                            subst hsw2
                            obtain ⟨s29, hs29⟩ : ∃ xx', shV x25 shift = xx' := ⟨_, rfl⟩
                            rw [hs29]
                            have HNs29 := hid hs29
                            clear hs29
                            obtain ⟨s30, hs30⟩ : ∃ xx', shV x26 shift = xx' := ⟨_, rfl⟩
                            rw [hs30]
                            have HNs30 := hid hs30
                            clear hs30
                            go_wp2_with fail
                            refine (fbounds_any _ _ _ _ _ _ _ (H24.out.old HC.out)).mono ?_
                            rintro e w31 ⟨rfl, hb⟩
                            have H32 := hid (H24.out.call hb)
                            clear hb
                            obtain ⟨x33, hx33⟩ : ∃ xx', bdLo col s29 s30 = xx' := ⟨_, rfl⟩
                            rw [hx33]
                            have HNx33 := hid hx33
                            clear hx33
                            obtain ⟨x34, hx34⟩ : ∃ xx', bdHi col s29 s30 = xx' := ⟨_, rfl⟩
                            rw [hx34]
                            have HNx34 := hid hx34
                            clear hx34
                            obtain ⟨b35, hb35⟩ : ∃ xx', bdOk col s29 s30 = xx' := ⟨_, rfl⟩
                            rw [hb35]
                            have HNb35 := hid hb35
                            clear hb35
                            cases b35 with
                            | true =>
                              go_wp2_with fail
                              go_ret
                              exact ⟨ret_i (by unfold spCode; rw [if_neg (fun hc => hc ⟨by simp only [sideOk, decide_eq_true_eq]; rw [HLR.out]; omega, by simp only [sideOk, decide_eq_true_eq]; rw [HLC.out]; omega⟩), if_neg (fun hc => hc ⟨(wCode_zero.1 (by rw [HNk9.out]; have := c10h.out; have := c14h.out; omega)).2.2, (wCode_zero.1 (by rw [HNk13.out]; have := c10h.out; have := c14h.out; omega)).2.2, by simp only [shOk, decide_eq_true_eq]; omega, by simp only [shOk, decide_eq_true_eq]; omega⟩), if_neg (by simp only [valOk, decide_eq_true_eq]; omega), if_neg (by rw [HNb27.out]; simp), if_neg (by rw [← (bdOk_yes HNb27.out).1, ← (bdOk_yes HNb27.out).2, HNx25.out, HNx26.out, HNs29.out, HNs30.out, HNb35.out]; simp)]), by first | exact H32.out.below | exact H32.out.below'⟩
                            | false =>
                              go_wp2_with fail
                              go_ret
                              exact ⟨ret_i (by unfold spCode; rw [if_neg (fun hc => hc ⟨by simp only [sideOk, decide_eq_true_eq]; rw [HLR.out]; omega, by simp only [sideOk, decide_eq_true_eq]; rw [HLC.out]; omega⟩), if_neg (fun hc => hc ⟨(wCode_zero.1 (by rw [HNk9.out]; have := c10h.out; have := c14h.out; omega)).2.2, (wCode_zero.1 (by rw [HNk13.out]; have := c10h.out; have := c14h.out; omega)).2.2, by simp only [shOk, decide_eq_true_eq]; omega, by simp only [shOk, decide_eq_true_eq]; omega⟩), if_neg (by simp only [valOk, decide_eq_true_eq]; omega), if_neg (by rw [HNb27.out]; simp), if_pos (by rw [← (bdOk_yes HNb27.out).1, ← (bdOk_yes HNb27.out).2, HNx25.out, HNx26.out, HNs29.out, HNs30.out, HNb35.out])]), by first | exact H32.out.below | exact H32.out.below'⟩
                          | false =>
                            go_wp2_with fail
                            go_ret
                            exact ⟨ret_i (by unfold spCode; rw [if_neg (fun hc => hc ⟨by simp only [sideOk, decide_eq_true_eq]; rw [HLR.out]; omega, by simp only [sideOk, decide_eq_true_eq]; rw [HLC.out]; omega⟩), if_neg (fun hc => hc ⟨(wCode_zero.1 (by rw [HNk9.out]; have := c10h.out; have := c14h.out; omega)).2.2, (wCode_zero.1 (by rw [HNk13.out]; have := c10h.out; have := c14h.out; omega)).2.2, by simp only [shOk, decide_eq_true_eq]; omega, by simp only [shOk, decide_eq_true_eq]; omega⟩), if_neg (by simp only [valOk, decide_eq_true_eq]; omega), if_pos HNb27.out]), by first | exact H24.out.below | exact H24.out.below'⟩
        · have c14a : ((k13 : Int) == (0)) = false := by simpa using c14
          have c14b : ((k13 : Int) != (0)) = true := by simpa using c14
          have c14h := hid c14
          clear c14
          go_wp2_with fail
          go_ret
          exact ⟨ret_i (by unfold spCode; rw [if_neg (fun hc => hc ⟨by simp only [sideOk, decide_eq_true_eq]; rw [HLR.out]; omega, by simp only [sideOk, decide_eq_true_eq]; rw [HLC.out]; omega⟩), if_pos (by intro hc; have h2 := wCode_zero.2 ⟨by rw [HLC.out]; omega, by rw [HLC.out]; omega, hc.2.1⟩; rw [HNk13.out] at h2; have := c10h.out; have := c14h.out; omega)]), by first | exact H12.out.below | exact H12.out.below'⟩
      · have c10a : ((k9 : Int) == (0)) = false := by simpa using c10
        have c10b : ((k9 : Int) != (0)) = true := by simpa using c10
        have c10h := hid c10
        clear c10
        go_wp2_with fail
        go_ret
        exact ⟨ret_i (by unfold spCode; rw [if_neg (fun hc => hc ⟨by simp only [sideOk, decide_eq_true_eq]; rw [HLR.out]; omega, by simp only [sideOk, decide_eq_true_eq]; rw [HLC.out]; omega⟩), if_pos (by intro hc; have h2 := wCode_zero.2 ⟨by rw [HLR.out]; omega, by rw [HLR.out]; omega, hc.1⟩; rw [HNk9.out] at h2; have := c10h.out; omega)]), by first | exact H8.out.below | exact H8.out.below'⟩
end Go.Proofs.Yteejjnhlfgjlaaa
