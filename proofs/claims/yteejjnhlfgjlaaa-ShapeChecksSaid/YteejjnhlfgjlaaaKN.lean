/-
 Plain law: convolutions: the pixels, the sums, the errors; results as grids and their crops. Contracts: the errors of kernels, in the program and in the reference.
-/
import Derived.Test.YteejjnhlfgjlaaaKE
import Derived.Test.YteejjnhlfgjlaaaKF
import Derived.Test.YteejjnhlfgjlaaaKA
namespace Go.Proofs.Yteejjnhlfgjlaaa
section
open Go.RowKit

def cvCode (mx kw kh : Int) (ws : List Int) (shift out : Int) : Int :=
 if ¬ (sideOk kw = true ∧ sideOk kh = true ∧ (ws.length : Int) = kw * kh) then 9
 else if ¬ (wAll ws = true ∧ shOk shift = true) then 10
 else if ¬ (valOk mx = true ∧ valOk out = true) then 2
 else if bdOk ws 0 mx = false then 11 else 0
/-! ### Grids -/
end

section
open Go.RowKit
attribute [local go_sem ↓] Go.wp_at_zero Go.wp_at_succ
set_option linter.unusedVariables false
set_option linter.unusedSimpArgs false

set_option maxHeartbeats 800000 in
theorem rside_any (v : Int) (w : World) : Calls Try.prog 61 #[.int .i64 v] w fun e w' => e = .returned (.bool (sideOk v)) ∧ w' = w := by
 go_enter Try.func61, Try.ntmps61
 go_wp2
 all_goals (go_ret; refine ⟨ret_b (bool_of_iff ?_), rfl⟩; simp only [sideOk, valOk, decide_eq_true_eq, Bool.false_eq_true, false_iff, true_iff, Bool.and_eq_true, iff_false, iff_true] <;> omega)

set_option maxHeartbeats 800000 in
theorem rval_any (v : Int) (w : World) : Calls Try.prog 64 #[.int .i64 v] w fun e w' => e = .returned (.bool (valOk v)) ∧ w' = w := by
 go_enter Try.func64, Try.ntmps64
 go_wp2
 all_goals (go_ret; refine ⟨ret_b (bool_of_iff ?_), rfl⟩; simp only [sideOk, valOk, decide_eq_true_eq, Bool.false_eq_true, false_iff, true_iff, Bool.and_eq_true, iff_false, iff_true] <;> omega)

set_option maxRecDepth 100000 in
set_option maxHeartbeats 3200000 in
theorem ccheck_any (mx kw kh shift out : Int) (a : Option Addr) (n c : Nat) (ws : List Int) (W : World) (hs : Slc W a n c ws) :
    Calls Try.prog 40 #[.int .i64 mx, .int .i64 kw, .int .i64 kh, .slice a n c, .int .i64 shift, .int .i64 out] W fun e w' => e = .returned (.int .i64 (cvCode mx kw kh ws shift out)) ∧ Below W.heap.size W w' := by
  obtain ⟨B, hB⟩ : ∃ B, W.heap.size = B := ⟨_, rfl⟩; have HI0 := hid (St.init hB); have HS := hid hs; have HL := hid hs.len; have nmx : (n : Int) ≤ 9223372036854775807 := by have := hs.nc; have := hs.cap; omega
  clear hs
  go_enter Try.func40, Try.ntmps40
  by_cases c1 : (kw : Int) < 1
  · skip
    go_wp2_with fail
    go_ret
    exact ⟨ret_i (by unfold cvCode; rw [if_pos (show ¬ (sideOk kw = true ∧ sideOk kh = true ∧ (ws.length : Int) = kw * kh) from by simp only [sideOk, decide_eq_true_eq]; rw [HL.out]; omega)]), HI0.out.bl⟩
  · skip
    by_cases c2 : (9 : Int) < kw
    · skip
      go_wp2_with fail
      go_ret
      exact ⟨ret_i (by unfold cvCode; rw [if_pos (show ¬ (sideOk kw = true ∧ sideOk kh = true ∧ (ws.length : Int) = kw * kh) from by simp only [sideOk, decide_eq_true_eq]; rw [HL.out]; omega)]), HI0.out.bl⟩
    · skip
      by_cases c3 : (kh : Int) < 1
      · skip
        go_wp2_with fail
        go_ret
        exact ⟨ret_i (by unfold cvCode; rw [if_pos (show ¬ (sideOk kw = true ∧ sideOk kh = true ∧ (ws.length : Int) = kw * kh) from by simp only [sideOk, decide_eq_true_eq]; rw [HL.out]; omega)]), HI0.out.bl⟩
      · skip
        by_cases c4 : (9 : Int) < kh
        · skip
          go_wp2_with fail
          go_ret
          exact ⟨ret_i (by unfold cvCode; rw [if_pos (show ¬ (sideOk kw = true ∧ sideOk kh = true ∧ (ws.length : Int) = kw * kh) from by simp only [sideOk, decide_eq_true_eq]; rw [HL.out]; omega)]), HI0.out.bl⟩
        · skip
          have p1 : kw * kh ≤ 9 * 9 := Int.mul_le_mul (by omega) (by omega) (by omega) (by omega); have p2 : 1 * 1 ≤ kw * kh := Int.mul_le_mul (by omega) (by omega) (by omega) (by omega); obtain ⟨KK, hKK⟩ : ∃ x, kw * kh = x := ⟨_, rfl⟩; rw [hKK] at p1 p2; have HKK := hid hKK; have wk : IntKind.i64.wrap KK = KK := IntWalk.i64_in _ (by omega); by_cases c5 : (n : Int) = KK
          · obtain ⟨c5c, c5d⟩ : (n : Int) ≤ KK ∧ (KK : Int) ≤ n := by omega
            have c5a : ((n : Int) == (KK)) = true := by simpa using c5
            have c5b : ((n : Int) != (KK)) = false := by simpa using c5
            have c5h := hid c5; clear c5; go_wp2_with fail
            refine (fweights_any _ _ _ _ _ (HI0.out.old HS.out)).mono ?_; rintro e w6 ⟨rfl, hb⟩; have H7 := hid (HI0.out.call hb); clear hb; obtain ⟨k8, hk8⟩ : ∃ xx', wCode ws = xx' := ⟨_, rfl⟩; rw [hk8]; have HNk8 := hid hk8; clear hk8; by_cases c9 : (k8 : Int) = 0
            · obtain ⟨c9c, c9d⟩ : (k8 : Int) ≤ 0 ∧ (0 : Int) ≤ k8 := by omega
              have c9a : ((k8 : Int) == (0)) = true := by simpa using c9
              have c9b : ((k8 : Int) != (0)) = false := by simpa using c9
              have c9h := hid c9; clear c9; by_cases c6 : (shift : Int) < 0
              · skip
                go_wp2_with fail
                go_ret
                exact ⟨ret_i (by unfold cvCode; rw [if_neg (show ¬ ¬ (sideOk kw = true ∧ sideOk kh = true ∧ (ws.length : Int) = kw * kh) from by simp only [sideOk, decide_eq_true_eq]; rw [HL.out, HKK.out]; have := c5h.out; have := c9h.out; omega), if_pos (by intro hc; have h2 := wCode_zero.2 ⟨by rw [HL.out]; omega, by rw [HL.out]; omega, hc.1⟩; have h3 := hc.2; rw [HNk8.out] at h2; simp only [shOk, decide_eq_true_eq] at h3; have := c5h.out; have := c9h.out; omega)]), H7.out.bl⟩
              · skip
                by_cases c6 : (24 : Int) < shift
                · skip
                  go_wp2_with fail
                  go_ret
                  exact ⟨ret_i (by unfold cvCode; rw [if_neg (show ¬ ¬ (sideOk kw = true ∧ sideOk kh = true ∧ (ws.length : Int) = kw * kh) from by simp only [sideOk, decide_eq_true_eq]; rw [HL.out, HKK.out]; have := c5h.out; have := c9h.out; omega), if_pos (by intro hc; have h2 := wCode_zero.2 ⟨by rw [HL.out]; omega, by rw [HL.out]; omega, hc.1⟩; have h3 := hc.2; rw [HNk8.out] at h2; simp only [shOk, decide_eq_true_eq] at h3; have := c5h.out; have := c9h.out; omega)]), H7.out.bl⟩
                · skip
                  by_cases c6 : (mx : Int) < 1
                  · skip
                    go_wp2_with fail
                    go_ret
                    exact ⟨ret_i (by unfold cvCode; rw [if_neg (show ¬ ¬ (sideOk kw = true ∧ sideOk kh = true ∧ (ws.length : Int) = kw * kh) from by simp only [sideOk, decide_eq_true_eq]; rw [HL.out, HKK.out]; have := c5h.out; have := c9h.out; omega), if_neg (show ¬ ¬ (wAll ws = true ∧ shOk shift = true) from fun hc => hc ⟨(wCode_zero.1 (by rw [HNk8.out]; have := c5h.out; have := c9h.out; omega)).2.2, by simp only [shOk, decide_eq_true_eq]; omega⟩), if_pos (by simp only [valOk, decide_eq_true_eq]; omega)]), H7.out.bl⟩
                  · skip
                    by_cases c6 : (4294967296 : Int) < mx
                    · skip
                      go_wp2_with fail
                      go_ret
                      exact ⟨ret_i (by unfold cvCode; rw [if_neg (show ¬ ¬ (sideOk kw = true ∧ sideOk kh = true ∧ (ws.length : Int) = kw * kh) from by simp only [sideOk, decide_eq_true_eq]; rw [HL.out, HKK.out]; have := c5h.out; have := c9h.out; omega), if_neg (show ¬ ¬ (wAll ws = true ∧ shOk shift = true) from fun hc => hc ⟨(wCode_zero.1 (by rw [HNk8.out]; have := c5h.out; have := c9h.out; omega)).2.2, by simp only [shOk, decide_eq_true_eq]; omega⟩), if_pos (by simp only [valOk, decide_eq_true_eq]; omega)]), H7.out.bl⟩
                    · skip
                      by_cases c6 : (out : Int) < 1
                      · skip
                        go_wp2_with fail
                        go_ret
                        exact ⟨ret_i (by unfold cvCode; rw [if_neg (show ¬ ¬ (sideOk kw = true ∧ sideOk kh = true ∧ (ws.length : Int) = kw * kh) from by simp only [sideOk, decide_eq_true_eq]; rw [HL.out, HKK.out]; have := c5h.out; have := c9h.out; omega), if_neg (show ¬ ¬ (wAll ws = true ∧ shOk shift = true) from fun hc => hc ⟨(wCode_zero.1 (by rw [HNk8.out]; have := c5h.out; have := c9h.out; omega)).2.2, by simp only [shOk, decide_eq_true_eq]; omega⟩), if_pos (by simp only [valOk, decide_eq_true_eq]; omega)]), H7.out.bl⟩
                      · skip
                        by_cases c6 : (4294967296 : Int) < out
                        · skip
                          go_wp2_with fail
                          go_ret
                          exact ⟨ret_i (by unfold cvCode; rw [if_neg (show ¬ ¬ (sideOk kw = true ∧ sideOk kh = true ∧ (ws.length : Int) = kw * kh) from by simp only [sideOk, decide_eq_true_eq]; rw [HL.out, HKK.out]; have := c5h.out; have := c9h.out; omega), if_neg (show ¬ ¬ (wAll ws = true ∧ shOk shift = true) from fun hc => hc ⟨(wCode_zero.1 (by rw [HNk8.out]; have := c5h.out; have := c9h.out; omega)).2.2, by simp only [shOk, decide_eq_true_eq]; omega⟩), if_pos (by simp only [valOk, decide_eq_true_eq]; omega)]), H7.out.bl⟩
                        · skip
                          go_wp2_with fail
                          refine (fbounds_any _ _ _ _ _ _ _ (H7.out.old HS.out)).mono ?_; rintro e w16 ⟨rfl, hb⟩; have H1 := hid (H7.out.call hb); clear hb; obtain ⟨x1, hx1⟩ : ∃ xx', bdLo ws 0 mx = xx' := ⟨_, rfl⟩; rw [hx1]; have HNx1 := hid hx1; clear hx1; obtain ⟨x1, hx1⟩ : ∃ xx', bdHi ws 0 mx = xx' := ⟨_, rfl⟩; rw [hx1]; have HNx1 := hid hx1; clear hx1; obtain ⟨b1, hb1⟩ : ∃ xx', bdOk ws 0 mx = xx' := ⟨_, rfl⟩; rw [hb1]; have HNb1 := hid hb1; clear hb1; cases b1; rotate_left
                          ·
                            go_wp2_with fail
                            go_ret
                            exact ⟨ret_i (by unfold cvCode; rw [if_neg (show ¬ ¬ (sideOk kw = true ∧ sideOk kh = true ∧ (ws.length : Int) = kw * kh) from by simp only [sideOk, decide_eq_true_eq]; rw [HL.out, HKK.out]; have := c5h.out; have := c9h.out; omega), if_neg (show ¬ ¬ (wAll ws = true ∧ shOk shift = true) from fun hc => hc ⟨(wCode_zero.1 (by rw [HNk8.out]; have := c5h.out; have := c9h.out; omega)).2.2, by simp only [shOk, decide_eq_true_eq]; omega⟩), if_neg (by simp only [valOk, decide_eq_true_eq]; omega), if_neg (by rw [HNb1.out]; simp)]), H1.out.bl⟩
                          go_wp2_with fail
                          go_ret
                          exact ⟨ret_i (by unfold cvCode; rw [if_neg (show ¬ ¬ (sideOk kw = true ∧ sideOk kh = true ∧ (ws.length : Int) = kw * kh) from by simp only [sideOk, decide_eq_true_eq]; rw [HL.out, HKK.out]; have := c5h.out; have := c9h.out; omega), if_neg (show ¬ ¬ (wAll ws = true ∧ shOk shift = true) from fun hc => hc ⟨(wCode_zero.1 (by rw [HNk8.out]; have := c5h.out; have := c9h.out; omega)).2.2, by simp only [shOk, decide_eq_true_eq]; omega⟩), if_neg (by simp only [valOk, decide_eq_true_eq]; omega), if_pos HNb1.out]), H1.out.bl⟩
            · have c9a : ((k8 : Int) == (0)) = false := by simpa using c9
              have c9b : ((k8 : Int) != (0)) = true := by simpa using c9
              have c9h := hid c9; clear c9; go_wp2_with fail
              go_ret
              exact ⟨ret_i (by unfold cvCode; rw [if_neg (show ¬ ¬ (sideOk kw = true ∧ sideOk kh = true ∧ (ws.length : Int) = kw * kh) from by simp only [sideOk, decide_eq_true_eq]; rw [HL.out, HKK.out]; have := c5h.out; have := c9h.out; omega), if_pos (by intro hc; have h2 := wCode_zero.2 ⟨by rw [HL.out]; omega, by rw [HL.out]; omega, hc.1⟩; have h3 := hc.2; rw [HNk8.out] at h2; simp only [shOk, decide_eq_true_eq] at h3; have := c5h.out; have := c9h.out; omega)]), H7.out.bl⟩
          · have c5a : ((n : Int) == (KK)) = false := by simpa using c5
            have c5b : ((n : Int) != (KK)) = true := by simpa using c5
            have c5h := hid c5; clear c5; go_wp2_with fail
            go_ret
            exact ⟨ret_i (by unfold cvCode; rw [if_pos (show ¬ (sideOk kw = true ∧ sideOk kh = true ∧ (ws.length : Int) = kw * kh) from by simp only [sideOk, decide_eq_true_eq]; rw [HL.out]; have := c5h.out; have := HKK.out; omega)]), HI0.out.bl⟩

set_option maxRecDepth 100000 in
set_option maxHeartbeats 3200000 in
theorem rccheck_any (mx kw kh shift out : Int) (a : Option Addr) (n c : Nat) (ws : List Int) (W : World) (hs : Slc W a n c ws) :
    Calls Try.prog 45 #[.int .i64 mx, .int .i64 kw, .int .i64 kh, .slice a n c, .int .i64 shift, .int .i64 out] W fun e w' => e = .returned (.int .i64 (cvCode mx kw kh ws shift out)) ∧ Below W.heap.size W w' := by
  obtain ⟨B, hB⟩ : ∃ B, W.heap.size = B := ⟨_, rfl⟩; have HI0 := hid (St.init hB); have HS := hid hs; have HL := hid hs.len; have nmx : (n : Int) ≤ 9223372036854775807 := by have := hs.nc; have := hs.cap; omega
  clear hs
  go_enter Try.func45, Try.ntmps45
  go_wp2_with fail
  refine (rside_any _ _).mono ?_; rintro e w1 ⟨rfl, hsw⟩; have hsw2 : W = w1 := by first | exact hsw | exact hsw.symm
  clear hsw; subst hsw2; obtain ⟨b1, hb1⟩ : ∃ xx', sideOk kw = xx' := ⟨_, rfl⟩; rw [hb1]; have HNb1 := hid hb1; clear hb1; cases b1; rotate_left
  ·
    go_wp2_with fail
    refine (rside_any _ _).mono ?_; rintro e w1 ⟨rfl, hsw⟩; have hsw2 : W = w1 := by first | exact hsw | exact hsw.symm
    clear hsw; subst hsw2; obtain ⟨b1, hb1⟩ : ∃ xx', sideOk kh = xx' := ⟨_, rfl⟩; rw [hb1]; have HNb2 := hid hb1; clear hb1; cases b1; rotate_left
    ·
      obtain ⟨kw1, kw2⟩ : 1 ≤ kw ∧ kw ≤ 9 := by have := HNb1.out; simpa [sideOk] using this
      obtain ⟨kh1, kh2⟩ : 1 ≤ kh ∧ kh ≤ 9 := by have := HNb2.out; simpa [sideOk] using this
      have p1 : kw * kh ≤ 9 * 9 := Int.mul_le_mul (by omega) (by omega) (by omega) (by omega); have p2 : 1 * 1 ≤ kw * kh := Int.mul_le_mul (by omega) (by omega) (by omega) (by omega); obtain ⟨KK, hKK⟩ : ∃ x, kw * kh = x := ⟨_, rfl⟩; rw [hKK] at p1 p2; have HKK := hid hKK; have wk : IntKind.i64.wrap KK = KK := IntWalk.i64_in _ (by omega); by_cases c1 : (n : Int) = KK
      · obtain ⟨c1c, c1d⟩ : (n : Int) ≤ KK ∧ (KK : Int) ≤ n := by omega
        have c1a : ((n : Int) == (KK)) = true := by simpa using c1
        have c1b : ((n : Int) != (KK)) = false := by simpa using c1
        have c1h := hid c1; clear c1; go_wp2_with fail
        refine (rareweights_any _ _ _ _ _ (HI0.out.old HS.out)).mono ?_; rintro e w1 ⟨rfl, hb⟩; have H1 := hid (HI0.out.call hb); clear hb; obtain ⟨b1, hb1⟩ : ∃ xx', wAll ws = xx' := ⟨_, rfl⟩; rw [hb1]; have HNb3 := hid hb1; clear hb1; cases b1; rotate_left
        ·
          go_wp2_with fail
          refine (rshok_any _ _).mono ?_; rintro e w2 ⟨rfl, hsw⟩; have hsw2 : w1 = w2 := by first | exact hsw | exact hsw.symm
          clear hsw; subst hsw2; obtain ⟨b1, hb1⟩ : ∃ xx', shOk shift = xx' := ⟨_, rfl⟩; rw [hb1]; have HNb4 := hid hb1; clear hb1; cases b1; rotate_left
          ·
            go_wp2_with fail
            refine (rval_any _ _).mono ?_; rintro e w2 ⟨rfl, hsw⟩; have hsw2 : w1 = w2 := by first | exact hsw | exact hsw.symm
            clear hsw; subst hsw2; obtain ⟨b32, hb32⟩ : ∃ xx', valOk mx = xx' := ⟨_, rfl⟩; rw [hb32]; have HNb32 := hid hb32; clear hb32; cases b32; rotate_left
            ·
              go_wp2_with fail
              refine (rval_any _ _).mono ?_; rintro e w2 ⟨rfl, hsw⟩; have hsw2 : w1 = w2 := by first | exact hsw | exact hsw.symm
              clear hsw; subst hsw2; obtain ⟨b1, hb1⟩ : ∃ xx', valOk out = xx' := ⟨_, rfl⟩; rw [hb1]; have HNb5 := hid hb1; clear hb1; cases b1; rotate_left
              ·
                go_wp2_with fail
                refine (rbounds_any _ _ _ _ _ _ _ (H1.out.old HS.out)).mono ?_; rintro e w1 ⟨rfl, hb⟩; have H2 := hid (H1.out.call hb); clear hb; obtain ⟨x1, hx1⟩ : ∃ xx', bdLo ws 0 mx = xx' := ⟨_, rfl⟩; rw [hx1]; have HNx1 := hid hx1; clear hx1; obtain ⟨x1, hx1⟩ : ∃ xx', bdHi ws 0 mx = xx' := ⟨_, rfl⟩; rw [hx1]; have HNx1 := hid hx1; clear hx1; obtain ⟨b1, hb1⟩ : ∃ xx', bdOk ws 0 mx = xx' := ⟨_, rfl⟩; rw [hb1]; have HNb6 := hid hb1; clear hb1; cases b1; rotate_left
                ·
                  go_wp2_with fail
                  go_ret
                  exact ⟨ret_i (by unfold cvCode; rw [if_neg (fun hc => hc ⟨HNb1.out, HNb2.out, by rw [HL.out, HKK.out]; have := c1h.out; omega⟩), if_neg (fun hc => hc ⟨HNb3.out, HNb4.out⟩), if_neg (fun hc => hc ⟨HNb32.out, HNb5.out⟩), if_neg (by rw [HNb6.out]; simp)]), H2.out.bl⟩
                go_wp2_with fail
                go_ret
                exact ⟨ret_i (by unfold cvCode; rw [if_neg (fun hc => hc ⟨HNb1.out, HNb2.out, by rw [HL.out, HKK.out]; have := c1h.out; omega⟩), if_neg (fun hc => hc ⟨HNb3.out, HNb4.out⟩), if_neg (fun hc => hc ⟨HNb32.out, HNb5.out⟩), if_pos HNb6.out]), H2.out.bl⟩
              go_wp2_with fail
              go_ret
              exact ⟨ret_i (by unfold cvCode; rw [if_neg (fun hc => hc ⟨HNb1.out, HNb2.out, by rw [HL.out, HKK.out]; have := c1h.out; omega⟩), if_neg (fun hc => hc ⟨HNb3.out, HNb4.out⟩), if_pos (by intro hc; rw [HNb5.out] at hc; simp at hc)]), H1.out.bl⟩
            go_wp2_with fail
            go_ret
            exact ⟨ret_i (by unfold cvCode; rw [if_neg (fun hc => hc ⟨HNb1.out, HNb2.out, by rw [HL.out, HKK.out]; have := c1h.out; omega⟩), if_neg (fun hc => hc ⟨HNb3.out, HNb4.out⟩), if_pos (by intro hc; rw [HNb32.out] at hc; simp at hc)]), H1.out.bl⟩
          go_wp2_with fail
          go_ret
          exact ⟨ret_i (by unfold cvCode; rw [if_neg (fun hc => hc ⟨HNb1.out, HNb2.out, by rw [HL.out, HKK.out]; have := c1h.out; omega⟩), if_pos (by intro hc; rw [HNb4.out] at hc; simp at hc)]), H1.out.bl⟩
        go_wp2_with fail
        go_ret
        exact ⟨ret_i (by unfold cvCode; rw [if_neg (fun hc => hc ⟨HNb1.out, HNb2.out, by rw [HL.out, HKK.out]; have := c1h.out; omega⟩), if_pos (by intro hc; rw [HNb3.out] at hc; simp at hc)]), H1.out.bl⟩
      · have c1a : ((n : Int) == (KK)) = false := by simpa using c1
        have c1b : ((n : Int) != (KK)) = true := by simpa using c1
        have c1h := hid c1; clear c1; go_wp2_with fail
        go_ret
        exact ⟨ret_i (by unfold cvCode; rw [if_pos (by rw [HL.out, HKK.out]; have := c1h.out; intro hc; have := hc.2.2; omega)]), HI0.out.bl⟩
    go_wp2_with fail
    go_ret
    exact ⟨ret_i (by unfold cvCode; rw [if_pos (by intro hc; rw [HNb2.out] at hc; simp at hc)]), HI0.out.bl⟩
  go_wp2_with fail
  go_ret
  exact ⟨ret_i (by unfold cvCode; rw [if_pos (by intro hc; rw [HNb1.out] at hc; simp at hc)]), HI0.out.bl⟩
end
end Go.Proofs.Yteejjnhlfgjlaaa
