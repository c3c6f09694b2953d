/-
  Contracts: the errors of kernels, in the program and in the reference.
-/
import Derived.Test.YtocikgdkigcjbaaCvPlain
import Derived.Test.YtocikgdkigcjbaaKF
namespace Go.Proofs.Ytocikgdkigcjbaa
open Go.RowKit
attribute [local go_sem ↓] Go.wp_at_zero Go.wp_at_succ
set_option linter.unusedVariables false
set_option linter.unusedSimpArgs false

set_option maxHeartbeats 800000 in
theorem rside_any (v : Int) (w : World) : Calls Try.prog 28 #[.int .i64 v] w fun e w' => e = .returned (.bool (sideOk v)) ∧ w' = w := by
  go_enter Try.func28, Try.ntmps28
  go_wp2
  all_goals (go_ret; refine ⟨ret_b (bool_of_iff ?_), rfl⟩; simp only [sideOk, valOk, decide_eq_true_eq, Bool.false_eq_true, false_iff, true_iff, Bool.and_eq_true, iff_false, iff_true] <;> omega)

set_option maxHeartbeats 800000 in
theorem rval_any (v : Int) (w : World) : Calls Try.prog 31 #[.int .i64 v] w fun e w' => e = .returned (.bool (valOk v)) ∧ w' = w := by
  go_enter Try.func31, Try.ntmps31
  go_wp2
  all_goals (go_ret; refine ⟨ret_b (bool_of_iff ?_), rfl⟩; simp only [sideOk, valOk, decide_eq_true_eq, Bool.false_eq_true, false_iff, true_iff, Bool.and_eq_true, iff_false, iff_true] <;> omega)

set_option maxRecDepth 100000 in
set_option maxHeartbeats 3200000 in
theorem ccheck_any (mx kw kh shift out : Int) (a : Option Addr) (n c : Nat) (ws : List Int) (W : World) (hs : Slc W a n c ws) :
    Calls Try.prog 12 #[.int .i64 mx, .int .i64 kw, .int .i64 kh, .slice a n c, .int .i64 shift, .int .i64 out] W fun e w' => e = .returned (.int .i64 (cvCode mx kw kh ws shift out)) ∧ Below W.heap.size W w' := by
  obtain ⟨B, hB⟩ : ∃ B, W.heap.size = B := ⟨_, rfl⟩
  have HI0 := hid (St.init hB)
  have HS := hid hs
  have HL := hid hs.len
  have nmx : (n : Int) ≤ 9223372036854775807 := by have := hs.nc; have := hs.cap; omega
  clear hs
  go_enter Try.func12, Try.ntmps12
  by_cases c1 : (kw : Int) < 1
  · skip
    go_wp2_with fail
    go_ret
    exact ⟨ret_i (by unfold cvCode; rw [if_pos (show ¬ (sideOk kw = true ∧ sideOk kh = true ∧ (ws.length : Int) = kw * kh) from by simp only [sideOk, decide_eq_true_eq]; rw [HL.out]; omega)]), by first | exact HI0.out.below | exact HI0.out.below'⟩
  · skip
    by_cases c2 : (9 : Int) < kw
    · skip
      go_wp2_with fail
      go_ret
      exact ⟨ret_i (by unfold cvCode; rw [if_pos (show ¬ (sideOk kw = true ∧ sideOk kh = true ∧ (ws.length : Int) = kw * kh) from by simp only [sideOk, decide_eq_true_eq]; rw [HL.out]; omega)]), by first | exact HI0.out.below | exact HI0.out.below'⟩
    · skip
      by_cases c3 : (kh : Int) < 1
      · skip
        go_wp2_with fail
        go_ret
        exact ⟨ret_i (by unfold cvCode; rw [if_pos (show ¬ (sideOk kw = true ∧ sideOk kh = true ∧ (ws.length : Int) = kw * kh) from by simp only [sideOk, decide_eq_true_eq]; rw [HL.out]; omega)]), by first | exact HI0.out.below | exact HI0.out.below'⟩
      · skip
        by_cases c4 : (9 : Int) < kh
        · skip
          go_wp2_with fail
          go_ret
          exact ⟨ret_i (by unfold cvCode; rw [if_pos (show ¬ (sideOk kw = true ∧ sideOk kh = true ∧ (ws.length : Int) = kw * kh) from by simp only [sideOk, decide_eq_true_eq]; rw [HL.out]; omega)]), by first | exact HI0.out.below | exact HI0.out.below'⟩
        · skip
          have p1 : kw * kh ≤ 9 * 9 := Int.mul_le_mul (by omega) (by omega) (by omega) (by omega)
          have p2 : 1 * 1 ≤ kw * kh := Int.mul_le_mul (by omega) (by omega) (by omega) (by omega)
          obtain ⟨KK, hKK⟩ : ∃ x, kw * kh = x := ⟨_, rfl⟩
          rw [hKK] at p1 p2
          have HKK := hid hKK
          have wk : IntKind.i64.wrap KK = KK := IntWalk.i64_in _ (by omega)
          by_cases c5 : (n : Int) = KK
          · obtain ⟨c5c, c5d⟩ : (n : Int) ≤ KK ∧ (KK : Int) ≤ n := by omega
            have c5a : ((n : Int) == (KK)) = true := by simpa using c5
            have c5b : ((n : Int) != (KK)) = false := by simpa using c5
            have c5h := hid c5
            clear c5
            go_wp2_with fail
            refine (fweights_any _ _ _ _ _ (HI0.out.old HS.out)).mono ?_
            rintro e w6 ⟨rfl, hb⟩
            have H7 := hid (HI0.out.call hb)
            clear hb
            obtain ⟨k8, hk8⟩ : ∃ xx', wCode ws = xx' := ⟨_, rfl⟩
            rw [hk8]
            have HNk8 := hid hk8
            clear hk8
            by_cases c9 : (k8 : Int) = 0
            · obtain ⟨c9c, c9d⟩ : (k8 : Int) ≤ 0 ∧ (0 : Int) ≤ k8 := by omega
              have c9a : ((k8 : Int) == (0)) = true := by simpa using c9
              have c9b : ((k8 : Int) != (0)) = false := by simpa using c9
              have c9h := hid c9
              clear c9
              by_cases c10 : (shift : Int) < 0
              · skip
                go_wp2_with fail
                go_ret
                exact ⟨ret_i (by unfold cvCode; rw [if_neg (show ¬ ¬ (sideOk kw = true ∧ sideOk kh = true ∧ (ws.length : Int) = kw * kh) from by simp only [sideOk, decide_eq_true_eq]; rw [HL.out, HKK.out]; have := c5h.out; have := c9h.out; omega), if_pos (by intro hc; have h2 := wCode_zero.2 ⟨by rw [HL.out]; omega, by rw [HL.out]; omega, hc.1⟩; have h3 := hc.2; rw [HNk8.out] at h2; simp only [shOk, decide_eq_true_eq] at h3; have := c5h.out; have := c9h.out; omega)]), by first | exact H7.out.below | exact H7.out.below'⟩
              · skip
                by_cases c11 : (24 : Int) < shift
                · skip
                  go_wp2_with fail
                  go_ret
                  exact ⟨ret_i (by unfold cvCode; rw [if_neg (show ¬ ¬ (sideOk kw = true ∧ sideOk kh = true ∧ (ws.length : Int) = kw * kh) from by simp only [sideOk, decide_eq_true_eq]; rw [HL.out, HKK.out]; have := c5h.out; have := c9h.out; omega), if_pos (by intro hc; have h2 := wCode_zero.2 ⟨by rw [HL.out]; omega, by rw [HL.out]; omega, hc.1⟩; have h3 := hc.2; rw [HNk8.out] at h2; simp only [shOk, decide_eq_true_eq] at h3; have := c5h.out; have := c9h.out; omega)]), by first | exact H7.out.below | exact H7.out.below'⟩
                · skip
                  by_cases c12 : (mx : Int) < 1
                  · skip
                    go_wp2_with fail
                    go_ret
                    exact ⟨ret_i (by unfold cvCode; rw [if_neg (show ¬ ¬ (sideOk kw = true ∧ sideOk kh = true ∧ (ws.length : Int) = kw * kh) from by simp only [sideOk, decide_eq_true_eq]; rw [HL.out, HKK.out]; have := c5h.out; have := c9h.out; omega), if_neg (show ¬ ¬ (wAll ws = true ∧ shOk shift = true) from fun hc => hc ⟨(wCode_zero.1 (by rw [HNk8.out]; have := c5h.out; have := c9h.out; omega)).2.2, by simp only [shOk, decide_eq_true_eq]; omega⟩), if_pos (by simp only [valOk, decide_eq_true_eq]; omega)]), by first | exact H7.out.below | exact H7.out.below'⟩
                  · skip
                    by_cases c13 : (4294967296 : Int) < mx
                    · skip
                      go_wp2_with fail
                      go_ret
                      exact ⟨ret_i (by unfold cvCode; rw [if_neg (show ¬ ¬ (sideOk kw = true ∧ sideOk kh = true ∧ (ws.length : Int) = kw * kh) from by simp only [sideOk, decide_eq_true_eq]; rw [HL.out, HKK.out]; have := c5h.out; have := c9h.out; omega), if_neg (show ¬ ¬ (wAll ws = true ∧ shOk shift = true) from fun hc => hc ⟨(wCode_zero.1 (by rw [HNk8.out]; have := c5h.out; have := c9h.out; omega)).2.2, by simp only [shOk, decide_eq_true_eq]; omega⟩), if_pos (by simp only [valOk, decide_eq_true_eq]; omega)]), by first | exact H7.out.below | exact H7.out.below'⟩
                    · skip
                      by_cases c14 : (out : Int) < 1
                      · skip
                        go_wp2_with fail
                        go_ret
                        exact ⟨ret_i (by unfold cvCode; rw [if_neg (show ¬ ¬ (sideOk kw = true ∧ sideOk kh = true ∧ (ws.length : Int) = kw * kh) from by simp only [sideOk, decide_eq_true_eq]; rw [HL.out, HKK.out]; have := c5h.out; have := c9h.out; omega), if_neg (show ¬ ¬ (wAll ws = true ∧ shOk shift = true) from fun hc => hc ⟨(wCode_zero.1 (by rw [HNk8.out]; have := c5h.out; have := c9h.out; omega)).2.2, by simp only [shOk, decide_eq_true_eq]; omega⟩), if_pos (by simp only [valOk, decide_eq_true_eq]; omega)]), by first | exact H7.out.below | exact H7.out.below'⟩
                      · skip
                        by_cases c15 : (4294967296 : Int) < out
                        · skip
                          go_wp2_with fail
                          go_ret
                          exact ⟨ret_i (by unfold cvCode; rw [if_neg (show ¬ ¬ (sideOk kw = true ∧ sideOk kh = true ∧ (ws.length : Int) = kw * kh) from by simp only [sideOk, decide_eq_true_eq]; rw [HL.out, HKK.out]; have := c5h.out; have := c9h.out; omega), if_neg (show ¬ ¬ (wAll ws = true ∧ shOk shift = true) from fun hc => hc ⟨(wCode_zero.1 (by rw [HNk8.out]; have := c5h.out; have := c9h.out; omega)).2.2, by simp only [shOk, decide_eq_true_eq]; omega⟩), if_pos (by simp only [valOk, decide_eq_true_eq]; omega)]), by first | exact H7.out.below | exact H7.out.below'⟩
                        · skip
                          go_wp2_with fail
                          refine (fbounds_any _ _ _ _ _ _ _ (H7.out.old HS.out)).mono ?_
                          rintro e w16 ⟨rfl, hb⟩
                          have H17 := hid (H7.out.call hb)
                          clear hb
                          obtain ⟨x18, hx18⟩ : ∃ xx', bdLo ws 0 mx = xx' := ⟨_, rfl⟩
                          rw [hx18]
                          have HNx18 := hid hx18
                          clear hx18
                          obtain ⟨x19, hx19⟩ : ∃ xx', bdHi ws 0 mx = xx' := ⟨_, rfl⟩
                          rw [hx19]
                          have HNx19 := hid hx19
                          clear hx19
                          obtain ⟨b20, hb20⟩ : ∃ xx', bdOk ws 0 mx = xx' := ⟨_, rfl⟩
                          rw [hb20]
                          have HNb20 := hid hb20
                          clear hb20
                          cases b20 with
                          | true =>
                            go_wp2_with fail
                            go_ret
                            exact ⟨ret_i (by unfold cvCode; rw [if_neg (show ¬ ¬ (sideOk kw = true ∧ sideOk kh = true ∧ (ws.length : Int) = kw * kh) from by simp only [sideOk, decide_eq_true_eq]; rw [HL.out, HKK.out]; have := c5h.out; have := c9h.out; omega), if_neg (show ¬ ¬ (wAll ws = true ∧ shOk shift = true) from fun hc => hc ⟨(wCode_zero.1 (by rw [HNk8.out]; have := c5h.out; have := c9h.out; omega)).2.2, by simp only [shOk, decide_eq_true_eq]; omega⟩), if_neg (by simp only [valOk, decide_eq_true_eq]; omega), if_neg (by rw [HNb20.out]; simp)]), by first | exact H17.out.below | exact H17.out.below'⟩
                          | false =>
                            go_wp2_with fail
                            go_ret
                            exact ⟨ret_i (by unfold cvCode; rw [if_neg (show ¬ ¬ (sideOk kw = true ∧ sideOk kh = true ∧ (ws.length : Int) = kw * kh) from by simp only [sideOk, decide_eq_true_eq]; rw [HL.out, HKK.out]; have := c5h.out; have := c9h.out; omega), if_neg (show ¬ ¬ (wAll ws = true ∧ shOk shift = true) from fun hc => hc ⟨(wCode_zero.1 (by rw [HNk8.out]; have := c5h.out; have := c9h.out; omega)).2.2, by simp only [shOk, decide_eq_true_eq]; omega⟩), if_neg (by simp only [valOk, decide_eq_true_eq]; omega), if_pos HNb20.out]), by first | exact H17.out.below | exact H17.out.below'⟩
            · have c9a : ((k8 : Int) == (0)) = false := by simpa using c9
              have c9b : ((k8 : Int) != (0)) = true := by simpa using c9
              have c9h := hid c9
              clear c9
              go_wp2_with fail
              go_ret
              exact ⟨ret_i (by unfold cvCode; rw [if_neg (show ¬ ¬ (sideOk kw = true ∧ sideOk kh = true ∧ (ws.length : Int) = kw * kh) from by simp only [sideOk, decide_eq_true_eq]; rw [HL.out, HKK.out]; have := c5h.out; have := c9h.out; omega), if_pos (by intro hc; have h2 := wCode_zero.2 ⟨by rw [HL.out]; omega, by rw [HL.out]; omega, hc.1⟩; have h3 := hc.2; rw [HNk8.out] at h2; simp only [shOk, decide_eq_true_eq] at h3; have := c5h.out; have := c9h.out; omega)]), by first | exact H7.out.below | exact H7.out.below'⟩
          · have c5a : ((n : Int) == (KK)) = false := by simpa using c5
            have c5b : ((n : Int) != (KK)) = true := by simpa using c5
            have c5h := hid c5
            clear c5
            go_wp2_with fail
            go_ret
            exact ⟨ret_i (by unfold cvCode; rw [if_pos (show ¬ (sideOk kw = true ∧ sideOk kh = true ∧ (ws.length : Int) = kw * kh) from by simp only [sideOk, decide_eq_true_eq]; rw [HL.out]; have := c5h.out; have := HKK.out; omega)]), by first | exact HI0.out.below | exact HI0.out.below'⟩

set_option maxRecDepth 100000 in
set_option maxHeartbeats 3200000 in
theorem rccheck_any (mx kw kh shift out : Int) (a : Option Addr) (n c : Nat) (ws : List Int) (W : World) (hs : Slc W a n c ws) :
    Calls Try.prog 13 #[.int .i64 mx, .int .i64 kw, .int .i64 kh, .slice a n c, .int .i64 shift, .int .i64 out] W fun e w' => e = .returned (.int .i64 (cvCode mx kw kh ws shift out)) ∧ Below W.heap.size W w' := by
  obtain ⟨B, hB⟩ : ∃ B, W.heap.size = B := ⟨_, rfl⟩
  have HI0 := hid (St.init hB)
  have HS := hid hs
  have HL := hid hs.len
  have nmx : (n : Int) ≤ 9223372036854775807 := by have := hs.nc; have := hs.cap; omega
  clear hs
  go_enter Try.func13, Try.ntmps13
  go_wp2_with fail
  refine (rside_any _ _).mono ?_
  rintro e w21 ⟨rfl, hsw⟩
  have hsw2 : W = w21 := by first | exact hsw | exact hsw.symm
  clear hsw
  subst hsw2
  obtain ⟨b22, hb22⟩ : ∃ xx', sideOk kw = xx' := ⟨_, rfl⟩
  rw [hb22]
  have HNb22 := hid hb22
  clear hb22
  cases b22 with
  | true =>
    go_wp2_with fail
    refine (rside_any _ _).mono ?_
    rintro e w23 ⟨rfl, hsw⟩
    have hsw2 : W = w23 := by first | exact hsw | exact hsw.symm
    clear hsw
    subst hsw2
    obtain ⟨b24, hb24⟩ : ∃ xx', sideOk kh = xx' := ⟨_, rfl⟩
    rw [hb24]
    have HNb24 := hid hb24
    clear hb24
    cases b24 with
    | true =>
      obtain ⟨kw1, kw2⟩ : 1 ≤ kw ∧ kw ≤ 9 := by have := HNb22.out; simpa [sideOk] using this
      obtain ⟨kh1, kh2⟩ : 1 ≤ kh ∧ kh ≤ 9 := by have := HNb24.out; simpa [sideOk] using this
      have p1 : kw * kh ≤ 9 * 9 := Int.mul_le_mul (by omega) (by omega) (by omega) (by omega)
      have p2 : 1 * 1 ≤ kw * kh := Int.mul_le_mul (by omega) (by omega) (by omega) (by omega)
      obtain ⟨KK, hKK⟩ : ∃ x, kw * kh = x := ⟨_, rfl⟩
      rw [hKK] at p1 p2
      have HKK := hid hKK
      have wk : IntKind.i64.wrap KK = KK := IntWalk.i64_in _ (by omega)
      by_cases c25 : (n : Int) = KK
      · obtain ⟨c25c, c25d⟩ : (n : Int) ≤ KK ∧ (KK : Int) ≤ n := by omega
        have c25a : ((n : Int) == (KK)) = true := by simpa using c25
        have c25b : ((n : Int) != (KK)) = false := by simpa using c25
        have c25h := hid c25
        clear c25
        go_wp2_with fail
        refine (rareweights_any _ _ _ _ _ (HI0.out.old HS.out)).mono ?_
        rintro e w26 ⟨rfl, hb⟩
        have H27 := hid (HI0.out.call hb)
        clear hb
        obtain ⟨b28, hb28⟩ : ∃ xx', wAll ws = xx' := ⟨_, rfl⟩
        rw [hb28]
        have HNb28 := hid hb28
        clear hb28
        cases b28 with
        | true =>
          go_wp2_with fail
          refine (rshok_any _ _).mono ?_
          rintro e w29 ⟨rfl, hsw⟩
          have hsw2 : w26 = w29 := by first | exact hsw | exact hsw.symm
          clear hsw
          subst hsw2
          obtain ⟨b30, hb30⟩ : ∃ xx', shOk shift = xx' := ⟨_, rfl⟩
          rw [hb30]
          have HNb30 := hid hb30
          clear hb30
          cases b30 with
          | true =>
            go_wp2_with fail
            refine (rval_any _ _).mono ?_
            rintro e w31 ⟨rfl, hsw⟩
            have hsw2 : w26 = w31 := by first | exact hsw | exact hsw.symm
            clear hsw
            subst hsw2
            obtain ⟨b32, hb32⟩ : ∃ xx', valOk mx = xx' := ⟨_, rfl⟩
            rw [hb32]
            have HNb32 := hid hb32
            clear hb32
            cases b32 with
            | true =>
              go_wp2_with fail
              refine (rval_any _ _).mono ?_
              rintro e w33 ⟨rfl, hsw⟩
              have hsw2 : w26 = w33 := by first | exact hsw | exact hsw.symm
              clear hsw
              subst hsw2
              obtain ⟨b34, hb34⟩ : ∃ xx', valOk out = xx' := ⟨_, rfl⟩
              rw [hb34]
              have HNb34 := hid hb34
              clear hb34
              cases b34 with
              | true =>
                go_wp2_with fail
                refine (rbounds_any _ _ _ _ _ _ _ (H27.out.old HS.out)).mono ?_
                rintro e w35 ⟨rfl, hb⟩
                have H36 := hid (H27.out.call hb)
                clear hb
                obtain ⟨x37, hx37⟩ : ∃ xx', bdLo ws 0 mx = xx' := ⟨_, rfl⟩
                rw [hx37]
                have HNx37 := hid hx37
                clear hx37
                obtain ⟨x38, hx38⟩ : ∃ xx', bdHi ws 0 mx = xx' := ⟨_, rfl⟩
                rw [hx38]
                have HNx38 := hid hx38
                clear hx38
                obtain ⟨b39, hb39⟩ : ∃ xx', bdOk ws 0 mx = xx' := ⟨_, rfl⟩
                rw [hb39]
                have HNb39 := hid hb39
                clear hb39
                cases b39 with
                | true =>
                  go_wp2_with fail
                  go_ret
                  exact ⟨ret_i (by unfold cvCode; rw [if_neg (fun hc => hc ⟨HNb22.out, HNb24.out, by rw [HL.out, HKK.out]; have := c25h.out; omega⟩), if_neg (fun hc => hc ⟨HNb28.out, HNb30.out⟩), if_neg (fun hc => hc ⟨HNb32.out, HNb34.out⟩), if_neg (by rw [HNb39.out]; simp)]), by first | exact H36.out.below | exact H36.out.below'⟩
                | false =>
                  go_wp2_with fail
                  go_ret
                  exact ⟨ret_i (by unfold cvCode; rw [if_neg (fun hc => hc ⟨HNb22.out, HNb24.out, by rw [HL.out, HKK.out]; have := c25h.out; omega⟩), if_neg (fun hc => hc ⟨HNb28.out, HNb30.out⟩), if_neg (fun hc => hc ⟨HNb32.out, HNb34.out⟩), if_pos HNb39.out]), by first | exact H36.out.below | exact H36.out.below'⟩
              | false =>
                go_wp2_with fail
                go_ret
                exact ⟨ret_i (by unfold cvCode; rw [if_neg (fun hc => hc ⟨HNb22.out, HNb24.out, by rw [HL.out, HKK.out]; have := c25h.out; omega⟩), if_neg (fun hc => hc ⟨HNb28.out, HNb30.out⟩), if_pos (by intro hc; rw [HNb34.out] at hc; simp at hc)]), by first | exact H27.out.below | exact H27.out.below'⟩
            | false =>
              go_wp2_with fail
              go_ret
              exact ⟨ret_i (by unfold cvCode; rw [if_neg (fun hc => hc ⟨HNb22.out, HNb24.out, by rw [HL.out, HKK.out]; have := c25h.out; omega⟩), if_neg (fun hc => hc ⟨HNb28.out, HNb30.out⟩), if_pos (by intro hc; rw [HNb32.out] at hc; simp at hc)]), by first | exact H27.out.below | exact H27.out.below'⟩
          | false =>
            go_wp2_with fail
            go_ret
            exact ⟨ret_i (by unfold cvCode; rw [if_neg (fun hc => hc ⟨HNb22.out, HNb24.out, by rw [HL.out, HKK.out]; have := c25h.out; omega⟩), if_pos (by intro hc; rw [HNb30.out] at hc; simp at hc)]), by first | exact H27.out.below | exact H27.out.below'⟩
        | false =>
          go_wp2_with fail
          go_ret
          exact ⟨ret_i (by unfold cvCode; rw [if_neg (fun hc => hc ⟨HNb22.out, HNb24.out, by rw [HL.out, HKK.out]; have := c25h.out; omega⟩), if_pos (by intro hc; rw [HNb28.out] at hc; simp at hc)]), by first | exact H27.out.below | exact H27.out.below'⟩
      · have c25a : ((n : Int) == (KK)) = false := by simpa using c25
        have c25b : ((n : Int) != (KK)) = true := by simpa using c25
        have c25h := hid c25
        clear c25
        go_wp2_with fail
        go_ret
        exact ⟨ret_i (by unfold cvCode; rw [if_pos (by rw [HL.out, HKK.out]; have := c25h.out; intro hc; have := hc.2.2; omega)]), by first | exact HI0.out.below | exact HI0.out.below'⟩
    | false =>
      go_wp2_with fail
      go_ret
      exact ⟨ret_i (by unfold cvCode; rw [if_pos (by intro hc; rw [HNb24.out] at hc; simp at hc)]), by first | exact HI0.out.below | exact HI0.out.below'⟩
  | false =>
    go_wp2_with fail
    go_ret
    exact ⟨ret_i (by unfold cvCode; rw [if_pos (by intro hc; rw [HNb22.out] at hc; simp at hc)]), by first | exact HI0.out.below | exact HI0.out.below'⟩
end Go.Proofs.Ytocikgdkigcjbaa
