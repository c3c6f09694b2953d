/-
  Contracts: valid tables, in the program and in the reference.
-/
import Derived.Test.YtaefdkinpaonkaaTaps
import Derived.Test.YtaefdkinpaonkaaTabPlain
import Derived.Test.YtaefdkinpaonkaaKF
import Derived.Test.YtaefdkinpaonkaaKA
namespace Go.Proofs.Ytaefdkinpaonkaa
open Go.RowKit
attribute [local go_sem ↓] Go.wp_at_zero Go.wp_at_succ
set_option linter.unusedVariables false
set_option linter.unusedSimpArgs false

theorem St.oldCell {B : Nat} {W w : World} {l : List Ch} {rs : List Ro} (h : St B W l rs w) {b o' : Nat} {v : Value} (hc : W.cell? ⟨b, o', none⟩ = some v) : w.cell? ⟨b, o', none⟩ = some v := cell_keep h.below hc
theorem tv_bad {ts : Tbl} {n k : Int} {j : Nat} (h : ¬ (n < 1 ∨ 128 < n ∨ ts.length = 0 ∨ 128 < ts.length)) (hj : j < ts.length) (h0 : tvTo ts j = 0) (h1 : tvOne (ts.getD j (0, [])) = k) (hk : k ≠ 0) : tvCode ts n = k := by
  unfold tvCode; rw [if_neg h, tvTo_bad j hj h0 (by rw [h1]; exact hk), h1]
theorem tv_ok {ts : Tbl} {n : Int} (h : ¬ (n < 1 ∨ 128 < n ∨ ts.length = 0 ∨ 128 < ts.length)) (h0 : tvTo ts ts.length = 0) : tvCode ts n = 0 := by unfold tvCode; rw [if_neg h, h0]
theorem tv_8 {ts : Tbl} {n : Int} (h : n < 1 ∨ 128 < n ∨ ts.length = 0 ∨ 128 < ts.length) : tvCode ts n = 8 := by unfold tvCode; rw [if_pos h]
theorem one9 {p : Int × List Int} (h : p.2.length = 0 ∨ 8 < p.2.length) : tvOne p = 9 := by unfold tvOne; rw [if_pos h]
theorem one10 {p : Int × List Int} (h : ¬ (p.2.length = 0 ∨ 8 < p.2.length)) (h2 : wAll p.2 = false) : tvOne p = 10 := by unfold tvOne; rw [if_neg h, if_pos h2]
theorem one2 {p : Int × List Int} (h : ¬ (p.2.length = 0 ∨ 8 < p.2.length)) (h2 : wAll p.2 = true) (h3 : tFirst p.1 = false) : tvOne p = 2 := by unfold tvOne; rw [if_neg h, if_neg (by rw [h2]; simp), if_pos h3]
theorem one0 {p : Int × List Int} (h : ¬ (p.2.length = 0 ∨ 8 < p.2.length)) (h2 : wAll p.2 = true) (h3 : tFirst p.1 = true) : tvOne p = 0 := by unfold tvOne; rw [if_neg h, if_neg (by rw [h2]; simp), if_neg (by rw [h3]; simp)]

set_option maxHeartbeats 800000 in
theorem tfirst_any (k : Int) (w : World) : Calls Try.prog 61 #[.int .i64 k] w fun e w' => e = .returned (.bool (tFirst k)) ∧ w' = w := by
  go_enter Try.func61, Try.ntmps61
  go_wp2
  all_goals (go_ret; refine ⟨ret_b (bool_of_iff ?_), rfl⟩; simp only [tFirst, decide_eq_true_eq, Bool.false_eq_true, false_iff, true_iff, Bool.and_eq_true, iff_false, iff_true] <;> omega)

set_option maxHeartbeats 800000 in
theorem rfirst_any (k : Int) (w : World) : Calls Try.prog 65 #[.int .i64 k] w fun e w' => e = .returned (.bool (tFirst k)) ∧ w' = w := by
  go_enter Try.func65, Try.ntmps65
  go_wp2
  all_goals (go_ret; refine ⟨ret_b (bool_of_iff ?_), rfl⟩; simp only [tFirst, decide_eq_true_eq, Bool.false_eq_true, false_iff, true_iff, Bool.and_eq_true, iff_false, iff_true] <;> omega)

set_option maxHeartbeats 800000 in
theorem r8side_any (k : Int) (w : World) : Calls Try.prog 59 #[.int .i64 k] w fun e w' => e = .returned (.bool (decide (1 ≤ k ∧ k ≤ 128))) ∧ w' = w := by
  go_enter Try.func59, Try.ntmps59
  go_wp2
  all_goals (go_ret; refine ⟨ret_b (bool_of_iff ?_), rfl⟩; simp only [tFirst, decide_eq_true_eq, Bool.false_eq_true, false_iff, true_iff, Bool.and_eq_true, iff_false, iff_true] <;> omega)

set_option maxHeartbeats 800000 in
theorem targs_any (n m s : Int) (w : World) : Calls Try.prog 57 #[.int .i64 n, .int .i64 m, .int .i64 s] w fun e w' => e = .returned (.int .i64 (tgCode n m s)) ∧ w' = w := by
  go_enter Try.func57, Try.ntmps57
  go_wp2
  all_goals (go_ret; refine ⟨ret_i ?_, rfl⟩; unfold tgCode; (repeat' split) <;> first | rfl | omega)

set_option maxRecDepth 100000 in
set_option maxHeartbeats 3200000 in
theorem tvalid_any (a : Option Addr) (m c : Nat) (ts : Tbl) (n : Int) (W : World) (hs : Tps W a m c ts) : Calls Try.prog 28 #[.slice a m c, .int .i64 n] W fun e w' => e = .returned (.int .i64 (tvCode ts n)) ∧ Below W.heap.size W w' := by
  have HL := hid hs.len
  have nmx : (m : Int) ≤ 9223372036854775807 := by have := hs.nc; have := hs.cap; omega
  by_cases hc : n < 1 ∨ 128 < n ∨ m = 0 ∨ 128 < m
  · rw [tv_8 (ts := ts) (n := n) (by rw [← HL.out]; exact hc)]
    by_cases k1 : n < 1
    · have k1' : decide (1 ≤ n ∧ n ≤ 128) = false := by simp; omega
      go_enter Try.func28, Try.ntmps28
      go_wp2
      all_goals (go_ret; exact ⟨rfl, Below.refl _ _⟩)
    · by_cases k2 : 128 < n
      · have k1' : decide (1 ≤ n ∧ n ≤ 128) = false := by simp; omega
        go_enter Try.func28, Try.ntmps28
        go_wp2
        all_goals (go_ret; exact ⟨rfl, Below.refl _ _⟩)
      · have k1' : decide (1 ≤ n ∧ n ≤ 128) = true := by simp; omega
        have k3' : decide (1 ≤ (m : Int) ∧ (m : Int) ≤ 128) = false := by simp; omega
        have k4' : decide (1 ≤ m ∧ (m : Int) ≤ 128) = false := by simp; omega
        have k5' : decide (1 ≤ m ∧ m ≤ 128) = false := by simp; omega
        have k6' : decide (0 < m ∧ m ≤ 128) = false := by simp; omega
        rcases (show m = 0 ∨ 128 < m by omega) with rfl | k3
        all_goals
          go_enter Try.func28, Try.ntmps28
          go_wp2
          all_goals (go_ret; exact ⟨rfl, Below.refl _ _⟩)
  obtain ⟨n1, n2, m1, m2⟩ : 1 ≤ n ∧ n ≤ 128 ∧ 1 ≤ m ∧ m ≤ 128 := by omega
  have HC := hid (show ¬ (n < 1 ∨ 128 < n ∨ ts.length = 0 ∨ 128 < ts.length) by rw [← HL.out]; exact hc)
  clear hc
  have m0 : ((m : Int) == 0) = false := by simp; omega
  obtain ⟨pb, po, hpa⟩ := hs.at (by omega)
  subst hpa
  have HS := hid hs
  clear hs
  obtain ⟨B, hB⟩ : ∃ B, W.heap.size = B := ⟨_, rfl⟩
  have HI0 := hid (St.init hB)
  go_enter Try.func28, Try.ntmps28
  go_wp2_with fail
  go_loopw [27] (fun i wr => ∃ j : Nat, j ≤ m ∧ tvTo ts j = 0 ∧ i = .int .i64 j ∧ St B W [] [] wr) (fun i _ => m - (intOf i).toNat)
  case atStart => exact ⟨0, by omega, rfl, rfl, HI0.out⟩
  case round =>
    obtain ⟨j, hj, htv, rfl, hst⟩ := hrel
    obtain ⟨u1, rfl⟩ : ∃ u1 : World, u1 = wr := ⟨_, rfl⟩
    have H2 := hid hst
    clear hst
    have HTV := hid htv
    clear htv
    by_cases hjn : j < m
    · skip
      have hjn' : (j : Int) < m := by omega
      obtain ⟨ta, tn, tc, e1, e2, e3⟩ := HS.out.row (i := j) hjn
      have HE1 := hid e1
      have HE2 := hid e2
      have f1 := H2.out.oldCell HE1.out
      have f2 := H2.out.oldCell HE2.out
      obtain ⟨p, hp⟩ : ∃ p, ts.getD j (0, []) = p := ⟨_, rfl⟩
      obtain ⟨k, ws⟩ := p
      rw [hp] at e3 HE1 f1
      simp only at e3 HE1 f1
      have HSL := hid e3
      have HWL := hid e3.len
      have tnm : (tn : Int) ≤ 9223372036854775807 := by have := e3.nc; have := e3.cap; omega
      have HP := hid hp
      clear e1 e2 e3 hp
      obtain ⟨D3, hD3⟩ : ∃ D, u1.heap.size = D := ⟨_, rfl⟩
      go_upto_region 6 with fail
      have H4 := hid (show St B W [.cells D3 #[.int .i64 k, .slice ta tn tc] 32] [] (u1.alloc (.cells #[.int .i64 k, .slice ta tn tc] 32)) from (H2.out.alloc #[.int .i64 k, .slice ta tn tc] 32 hD3))
      first | refine gen_code H4.out ?_ | refine gen_list H4.out ?_ | refine gen_calls H4.out ?_
      intro w5 hG
      clear H4
      have H4 := hid hG
      clear hG
      clear hD3
      by_cases c6 : (tn : Int) = 0
      · obtain ⟨c6c, c6d⟩ : (tn : Int) ≤ 0 ∧ (0 : Int) ≤ tn := by omega
        have c6a : ((tn : Int) == (0)) = true := by simpa using c6
        have c6b : ((tn : Int) != (0)) = false := by simpa using c6
        have c6h := hid c6
        clear c6
        have z7 := H4.out.cell 0 rfl 0 rfl
        have z8 := H4.out.cell 0 rfl 1 rfl
        go_wp2_with fail
        clear z7 z8
        go_ret
        exact ⟨ret_i (tv_bad HC.out (by rw [← HL.out]; exact hjn) HTV.out (by rw [HP.out]; exact one9 (show ws.length = 0 ∨ 8 < ws.length from by rw [HWL.out]; have := c6h.out; omega)) (by decide)).symm, by first | exact H4.out.below | exact H4.out.below'⟩
      · have c6a : ((tn : Int) == (0)) = false := by simpa using c6
        have c6b : ((tn : Int) != (0)) = true := by simpa using c6
        have c6h := hid c6
        clear c6
        by_cases c9 : (8 : Int) < tn
        · skip
          have z10 := H4.out.cell 0 rfl 0 rfl
          have z11 := H4.out.cell 0 rfl 1 rfl
          go_wp2_with fail
          clear z10 z11
          go_ret
          exact ⟨ret_i (tv_bad HC.out (by rw [← HL.out]; exact hjn) HTV.out (by rw [HP.out]; exact one9 (show ws.length = 0 ∨ 8 < ws.length from by rw [HWL.out]; have := c6h.out; omega)) (by decide)).symm, by first | exact H4.out.below | exact H4.out.below'⟩
        · skip
          have z12 := H4.out.cell 0 rfl 0 rfl
          have z13 := H4.out.cell 0 rfl 1 rfl
          go_wp2_with fail
          clear z12 z13
          go_loopw [44] (fun i wr => ∃ q : Nat, q ≤ tn ∧ (∀ i, i < q → wOk (ws.getD i 0) = true) ∧ i = .int .i64 q ∧ St B W [.cells D3 #[.int .i64 k, .slice ta tn tc] 32] [] wr) (fun i _ => tn - (intOf i).toNat)
          case atStart => exact ⟨0, by omega, fun i hi => by omega, rfl, H4.out⟩
          case round =>
            obtain ⟨q, hq, hqa, rfl, hst⟩ := hrel
            obtain ⟨u14, rfl⟩ : ∃ u14 : World, u14 = wr := ⟨_, rfl⟩
            have H15 := hid hst
            clear hst
            have HQA := hid hqa
            clear hqa
            by_cases hqn : q < tn
            · skip
              have hqn' : (q : Int) < tn := by omega
              obtain ⟨wb, wo, hta⟩ := row_at HSL.out.row (by omega)
              have cz := row_cell (by rw [← hta]; exact (H15.out.old HSL.out).row) (j := q) hqn
              obtain ⟨z, hz⟩ : ∃ z, ws.getD q 0 = z := ⟨_, rfl⟩
              rw [hz] at cz
              have HZ := hid hz
              clear hz
              have HTA := hid hta
              by_cases c16 : (z : Int) < (-32767)
              · skip
                go_wp2_with fail
                go_ret
                exact ⟨ret_i (tv_bad HC.out (by rw [← HL.out]; exact hjn) HTV.out (by rw [HP.out]; exact one10 (show ¬ (ws.length = 0 ∨ 8 < ws.length) from by rw [HWL.out]; have := c6h.out; omega) (wAll_bad (i := q) (by rw [HWL.out]; exact hqn) (by rw [HZ.out]; unfold wOk; simp; omega))) (by decide)).symm, by first | exact H15.out.below | exact H15.out.below'⟩
              · skip
                by_cases c17 : (32767 : Int) < z
                · skip
                  go_wp2_with fail
                  go_ret
                  exact ⟨ret_i (tv_bad HC.out (by rw [← HL.out]; exact hjn) HTV.out (by rw [HP.out]; exact one10 (show ¬ (ws.length = 0 ∨ 8 < ws.length) from by rw [HWL.out]; have := c6h.out; omega) (wAll_bad (i := q) (by rw [HWL.out]; exact hqn) (by rw [HZ.out]; unfold wOk; simp; omega))) (by decide)).symm, by first | exact H15.out.below | exact H15.out.below'⟩
                · skip
                  go_wp2_with fail
                  go_roundw
                  case rel => exact ⟨q + 1, by omega, fun i hi => by rcases Nat.lt_or_ge i q with h' | h'; exact HQA.out i h'; rw [show i = q by omega, HZ.out]; unfold wOk; simp; omega, by go_num, H15.out⟩
                  case measure => first | (simp [intOf]; omega) | (simp [intOf]; done)
            · skip
              have hqn' : ¬ ((q : Int) < tn) := by omega
              have HWA := hid (show wAll ws = true from by unfold wAll; rw [List.all_eq_true]; intro x hx; obtain ⟨i, hi, rfl⟩ := mem_getD' hx; exact HQA.out i (by rw [HWL.out] at hi; omega))
              have z18 := H15.out.cell 0 rfl 0 rfl
              have z19 := H15.out.cell 0 rfl 1 rfl
              go_wp2_with fail
              clear z18 z19
              refine (tfirst_any _ _).mono ?_
              rintro e w20 ⟨rfl, hsw⟩
              have hsw2 : u14 = w20 := by first | exact hsw | exact hsw.symm
              clear hsw
              subst hsw2
              obtain ⟨b21, hb21⟩ : ∃ xx', tFirst k = xx' := ⟨_, rfl⟩
              rw [hb21]
              have HNb21 := hid hb21
              clear hb21
              cases b21 with
              | true =>
                go_upto_region 16 with fail
                have H0 := hid (show tvOne (ts.getD j (0, [])) = 0 from by rw [HP.out]; exact one0 (show ¬ (ws.length = 0 ∨ 8 < ws.length) from by rw [HWL.out]; have := c6h.out; omega) HWA.out HNb21.out)
                go_wp2_with fail
                go_roundw
                case rel => exact ⟨j + 1, by omega, tvTo_next HTV.out H0.out, by go_num, H15.out.pick [] rfl (by decide)⟩
                case measure => first | (simp [intOf]; omega) | (simp [intOf]; done)
              | false =>
                go_wp2_with fail
                go_ret
                exact ⟨ret_i (tv_bad HC.out (by rw [← HL.out]; exact hjn) HTV.out (by rw [HP.out]; exact one2 (show ¬ (ws.length = 0 ∨ 8 < ws.length) from by rw [HWL.out]; have := c6h.out; omega) HWA.out HNb21.out) (by decide)).symm, by first | exact H15.out.below | exact H15.out.below'⟩
    · skip
      have hjn' : ¬ ((j : Int) < m) := by omega
      have HJM := hid (show j = ts.length from by rw [← HL.out]; omega)
      go_wp2_with fail
      go_ret
      exact ⟨ret_i (tv_ok HC.out (by rw [← HJM.out]; exact HTV.out)).symm, by first | exact H2.out.below | exact H2.out.below'⟩

set_option maxRecDepth 100000 in
set_option maxHeartbeats 3200000 in
theorem rtvalid_any (a : Option Addr) (m c : Nat) (ts : Tbl) (n : Int) (W : World) (hs : Tps W a m c ts) : Calls Try.prog 31 #[.slice a m c, .int .i64 n] W fun e w' => e = .returned (.int .i64 (tvCode ts n)) ∧ Below W.heap.size W w' := by
  have HL := hid hs.len
  have nmx : (m : Int) ≤ 9223372036854775807 := by have := hs.nc; have := hs.cap; omega
  by_cases hc : n < 1 ∨ 128 < n ∨ m = 0 ∨ 128 < m
  · rw [tv_8 (ts := ts) (n := n) (by rw [← HL.out]; exact hc)]
    by_cases k1 : n < 1
    · have k1' : decide (1 ≤ n ∧ n ≤ 128) = false := by simp; omega
      go_enter Try.func31, Try.ntmps31
      go_wp2_with (go_at_call 59; refine (r8side_any _ _).mono ?_; rintro e w' ⟨rfl, rfl⟩)
      all_goals (go_ret; exact ⟨rfl, Below.refl _ _⟩)
    · by_cases k2 : 128 < n
      · have k1' : decide (1 ≤ n ∧ n ≤ 128) = false := by simp; omega
        go_enter Try.func31, Try.ntmps31
        go_wp2_with (go_at_call 59; refine (r8side_any _ _).mono ?_; rintro e w' ⟨rfl, rfl⟩)
        all_goals (go_ret; exact ⟨rfl, Below.refl _ _⟩)
      · have k1' : decide (1 ≤ n ∧ n ≤ 128) = true := by simp; omega
        have k3' : decide (1 ≤ (m : Int) ∧ (m : Int) ≤ 128) = false := by simp; omega
        have k4' : decide (1 ≤ m ∧ (m : Int) ≤ 128) = false := by simp; omega
        have k5' : decide (1 ≤ m ∧ m ≤ 128) = false := by simp; omega
        have k6' : decide (0 < m ∧ m ≤ 128) = false := by simp; omega
        rcases (show m = 0 ∨ 128 < m by omega) with rfl | k3
        all_goals
          go_enter Try.func31, Try.ntmps31
          go_wp2_with (go_at_call 59; refine (r8side_any _ _).mono ?_; rintro e w' ⟨rfl, rfl⟩)
          all_goals (go_ret; exact ⟨rfl, Below.refl _ _⟩)
  obtain ⟨n1, n2, m1, m2⟩ : 1 ≤ n ∧ n ≤ 128 ∧ 1 ≤ m ∧ m ≤ 128 := by omega
  have HC := hid (show ¬ (n < 1 ∨ 128 < n ∨ ts.length = 0 ∨ 128 < ts.length) by rw [← HL.out]; exact hc)
  clear hc
  have m0 : ((m : Int) == 0) = false := by simp; omega
  obtain ⟨pb, po, hpa⟩ := hs.at (by omega)
  subst hpa
  have HS := hid hs
  clear hs
  obtain ⟨B, hB⟩ : ∃ B, W.heap.size = B := ⟨_, rfl⟩
  have HI0 := hid (St.init hB)
  go_enter Try.func31, Try.ntmps31
  go_wp2_with fail
  refine (r8side_any _ _).mono ?_
  rintro e w22 ⟨rfl, hsw⟩
  have hsw2 : W = w22 := by first | exact hsw | exact hsw.symm
  clear hsw
  subst hsw2
  rw [show decide (1 ≤ (n : Int) ∧ (n : Int) ≤ 128) = true by simp; omega]
  go_wp2_with fail
  refine (r8side_any _ _).mono ?_
  rintro e w23 ⟨rfl, hsw⟩
  have hsw2 : W = w23 := by first | exact hsw | exact hsw.symm
  clear hsw
  subst hsw2
  rw [show decide (1 ≤ (m : Int) ∧ (m : Int) ≤ 128) = true by simp; omega]
  go_wp2_with fail
  go_loopw [5] (fun i wr => ∃ j : Nat, j ≤ m ∧ tvTo ts j = 0 ∧ i = .int .i64 j ∧ St B W [] [] wr) (fun i _ => m - (intOf i).toNat)
  case atStart => exact ⟨0, by omega, rfl, rfl, HI0.out⟩
  case round =>
    obtain ⟨j, hj, htv, rfl, hst⟩ := hrel
    obtain ⟨u24, rfl⟩ : ∃ u24 : World, u24 = wr := ⟨_, rfl⟩
    have H25 := hid hst
    clear hst
    have HTV := hid htv
    clear htv
    by_cases hjn : j < m
    · skip
      have hjn' : (j : Int) < m := by omega
      obtain ⟨ta, tn, tc, e1, e2, e3⟩ := HS.out.row (i := j) hjn
      have HE1 := hid e1
      have HE2 := hid e2
      have f1 := H25.out.oldCell HE1.out
      have f2 := H25.out.oldCell HE2.out
      obtain ⟨p, hp⟩ : ∃ p, ts.getD j (0, []) = p := ⟨_, rfl⟩
      obtain ⟨k, ws⟩ := p
      rw [hp] at e3 HE1 f1
      simp only at e3 HE1 f1
      have HSL := hid e3
      have HWL := hid e3.len
      have tnm : (tn : Int) ≤ 9223372036854775807 := by have := e3.nc; have := e3.cap; omega
      have HP := hid hp
      clear e1 e2 e3 hp
      obtain ⟨D26, hD26⟩ : ∃ D, u24.heap.size = D := ⟨_, rfl⟩
      go_upto_region 7 with fail
      have H27 := hid (show St B W [.cells D26 #[.int .i64 k, .slice ta tn tc] 32] [] (u24.alloc (.cells #[.int .i64 k, .slice ta tn tc] 32)) from (H25.out.alloc #[.int .i64 k, .slice ta tn tc] 32 hD26))
      first | refine gen_code H27.out ?_ | refine gen_list H27.out ?_ | refine gen_calls H27.out ?_
      intro w28 hG
      clear H27
      have H27 := hid hG
      clear hG
      clear hD26
      by_cases c29 : (tn : Int) = 0
      · obtain ⟨c29c, c29d⟩ : (tn : Int) ≤ 0 ∧ (0 : Int) ≤ tn := by omega
        have c29a : ((tn : Int) == (0)) = true := by simpa using c29
        have c29b : ((tn : Int) != (0)) = false := by simpa using c29
        have c29h := hid c29
        clear c29
        have z30 := H27.out.cell 0 rfl 0 rfl
        have z31 := H27.out.cell 0 rfl 1 rfl
        go_wp2_with fail
        clear z30 z31
        go_ret
        exact ⟨ret_i (tv_bad HC.out (by rw [← HL.out]; exact hjn) HTV.out (by rw [HP.out]; exact one9 (show ws.length = 0 ∨ 8 < ws.length from by rw [HWL.out]; have := c29h.out; omega)) (by decide)).symm, by first | exact H27.out.below | exact H27.out.below'⟩
      · have c29a : ((tn : Int) == (0)) = false := by simpa using c29
        have c29b : ((tn : Int) != (0)) = true := by simpa using c29
        have c29h := hid c29
        clear c29
        by_cases c32 : (8 : Int) < tn
        · skip
          have z33 := H27.out.cell 0 rfl 0 rfl
          have z34 := H27.out.cell 0 rfl 1 rfl
          go_wp2_with fail
          clear z33 z34
          go_ret
          exact ⟨ret_i (tv_bad HC.out (by rw [← HL.out]; exact hjn) HTV.out (by rw [HP.out]; exact one9 (show ws.length = 0 ∨ 8 < ws.length from by rw [HWL.out]; have := c29h.out; omega)) (by decide)).symm, by first | exact H27.out.below | exact H27.out.below'⟩
        · skip
          have z35 := H27.out.cell 0 rfl 0 rfl
          have z36 := H27.out.cell 0 rfl 1 rfl
          go_wp2_with fail
          clear z35 z36
          refine (rareweights_any _ _ _ ws _ (H27.out.old HSL.out)).mono ?_
          rintro e w37 ⟨rfl, hb⟩
          have H38 := hid (H27.out.call hb)
          clear hb
          obtain ⟨b39, hb39⟩ : ∃ xx', wAll ws = xx' := ⟨_, rfl⟩
          rw [hb39]
          have HNb39 := hid hb39
          clear hb39
          cases b39 with
          | true =>
            have z40 := H38.out.cell 0 rfl 0 rfl
            have z41 := H38.out.cell 0 rfl 1 rfl
            go_wp2_with fail
            clear z40 z41
            refine (rfirst_any _ _).mono ?_
            rintro e w42 ⟨rfl, hsw⟩
            have hsw2 : w37 = w42 := by first | exact hsw | exact hsw.symm
            clear hsw
            subst hsw2
            obtain ⟨b43, hb43⟩ : ∃ xx', tFirst k = xx' := ⟨_, rfl⟩
            rw [hb43]
            have HNb43 := hid hb43
            clear hb43
            cases b43 with
            | true =>
              go_upto_region 5 with fail
              have H0 := hid (show tvOne (ts.getD j (0, [])) = 0 from by rw [HP.out]; exact one0 (show ¬ (ws.length = 0 ∨ 8 < ws.length) from by rw [HWL.out]; have := c29h.out; omega) HNb39.out HNb43.out)
              go_wp2_with fail
              go_roundw
              case rel => exact ⟨j + 1, by omega, tvTo_next HTV.out H0.out, by go_num, H38.out.pick [] rfl (by decide)⟩
              case measure => first | (simp [intOf]; omega) | (simp [intOf]; done)
            | false =>
              go_wp2_with fail
              go_ret
              exact ⟨ret_i (tv_bad HC.out (by rw [← HL.out]; exact hjn) HTV.out (by rw [HP.out]; exact one2 (show ¬ (ws.length = 0 ∨ 8 < ws.length) from by rw [HWL.out]; have := c29h.out; omega) HNb39.out HNb43.out) (by decide)).symm, by first | exact H38.out.below | exact H38.out.below'⟩
          | false =>
            go_wp2_with fail
            go_ret
            exact ⟨ret_i (tv_bad HC.out (by rw [← HL.out]; exact hjn) HTV.out (by rw [HP.out]; exact one10 (show ¬ (ws.length = 0 ∨ 8 < ws.length) from by rw [HWL.out]; have := c29h.out; omega) HNb39.out) (by decide)).symm, by first | exact H38.out.below | exact H38.out.below'⟩
    · skip
      have hjn' : ¬ ((j : Int) < m) := by omega
      have HJM := hid (show j = ts.length from by rw [← HL.out]; omega)
      go_wp2_with fail
      go_ret
      exact ⟨ret_i (tv_ok HC.out (by rw [← HJM.out]; exact HTV.out)).symm, by first | exact H25.out.below | exact H25.out.below'⟩
end Go.Proofs.Ytaefdkinpaonkaa
