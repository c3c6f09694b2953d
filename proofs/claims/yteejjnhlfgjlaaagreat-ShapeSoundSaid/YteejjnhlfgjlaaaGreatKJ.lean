/-
 Contracts: valid tables, in the program and in the reference. Contracts: linear tables, in the program and in the reference. Contracts: division by largest remainders, in the program and in the reference. Contracts: box tables, in the program and in the reference. Plain law of the laws of tables: tables between equal lengths, sums of weights, valid tables; with no program in sight.
-/
import Derived.Test.YteejjnhlfgjlaaaGreatKH
import Derived.Test.YteejjnhlfgjlaaaGreatKI
import Derived.Test.YteejjnhlfgjlaaaGreatKF
import Derived.Test.YteejjnhlfgjlaaaGreatKA
namespace Go.Proofs.YteejjnhlfgjlaaaGreat
section
open Go.RowKit
attribute [local go_sem ↓] Go.wp_at_zero Go.wp_at_succ
set_option linter.unusedVariables false
set_option linter.unusedSimpArgs false

theorem St.oldCell {B : Nat} {W w : World} {l : List Ch} {rs : List Ro} (h : St B W l rs w) {b o' : Nat} {v : Value} (hc : W.cell? ⟨b, o', none⟩ = some v) : w.cell? ⟨b, o', none⟩ = some v := cell_keep h.below hc
theorem tv_bad {ts : Tbl} {n k : Int} {j : Nat} (h : ¬ (n < 1 ∨ 128 < n ∨ ts.length = 0 ∨ 128 < ts.length)) (hj : j < ts.length) (h0 : tvTo ts j = 0) (h1 : tvOne (ts.getD j (0, [])) = k) (hk : k ≠ 0) : tvCode ts n = k := by
 unfold tvCode; rw [if_neg h, tvTo_bad j hj h0 (by rw [h1]; exact hk), h1]
theorem tv_ok {ts : Tbl} {n : Int} (h : ¬ (n < 1 ∨ 128 < n ∨ ts.length = 0 ∨ 128 < ts.length)) (h0 : tvTo ts ts.length = 0) : tvCode ts n = 0 := by unfold tvCode; rw [if_neg h, h0]
theorem tv_8 {ts : Tbl} {n : Int} (h : n < 1 ∨ 128 < n ∨ ts.length = 0 ∨ 128 < ts.length) : tvCode ts n = 8 := by unfold tvCode; rw [if_pos h]
theorem one9 {p : Int × List Int} (h : p.2.length = 0 ∨ 8 < p.2.length) : tvOne p = 9 := by unfold tvOne; rw [if_pos h]
theorem one10 {p : Int × List Int} (h : ¬ (p.2.length = 0 ∨ 8 < p.2.length)) (h2 : wAll p.2 = false) : tvOne p = 10 := by unfold tvOne; rw [if_neg h, if_pos h2]
theorem one2 {p : Int × List Int} (h : ¬ (p.2.length = 0 ∨ 8 < p.2.length)) (h2 : wAll p.2 = true) (h3 : tFirst p.1 = false) : tvOne p = 2 := by unfold tvOne; rw [if_neg h, if_neg (by rw [h2]; simp), if_pos h3]
theorem one0 {p : Int × List Int} (h : ¬ (p.2.length = 0 ∨ 8 < p.2.length)) (h2 : wAll p.2 = true) (h3 : tFirst p.1 = true) : tvOne p = 0 := by unfold tvOne; rw [if_neg h, if_neg (by rw [h2]; simp), if_neg (by rw [h3]; simp)]

set_option maxHeartbeats 800000 in
theorem tfirst_any (k : Int) (w : World) : Calls Tryz.prog 84 #[.int .i64 k] w fun e w' => e = .returned (.bool (tFirst k)) ∧ w' = w := by
 go_enter Tryz.func84, Tryz.ntmps84
 go_wp2
 all_goals (go_ret; refine ⟨ret_b (bool_of_iff ?_), rfl⟩; simp only [tFirst, decide_eq_true_eq, Bool.false_eq_true, false_iff, true_iff, Bool.and_eq_true, iff_false, iff_true] <;> omega)

set_option maxHeartbeats 800000 in
theorem rfirst_any (k : Int) (w : World) : Calls Tryz.prog 109 #[.int .i64 k] w fun e w' => e = .returned (.bool (tFirst k)) ∧ w' = w := by
 go_enter Tryz.func109, Tryz.ntmps109
 go_wp2
 all_goals (go_ret; refine ⟨ret_b (bool_of_iff ?_), rfl⟩; simp only [tFirst, decide_eq_true_eq, Bool.false_eq_true, false_iff, true_iff, Bool.and_eq_true, iff_false, iff_true] <;> omega)

set_option maxHeartbeats 800000 in
theorem r8side_any (k : Int) (w : World) : Calls Tryz.prog 57 #[.int .i64 k] w fun e w' => e = .returned (.bool (decide (1 ≤ k ∧ k ≤ 128))) ∧ w' = w := by
 go_enter Tryz.func57, Tryz.ntmps57
 go_wp2
 all_goals (go_ret; refine ⟨ret_b (bool_of_iff ?_), rfl⟩; simp only [tFirst, decide_eq_true_eq, Bool.false_eq_true, false_iff, true_iff, Bool.and_eq_true, iff_false, iff_true] <;> omega)

set_option maxRecDepth 100000 in
set_option maxHeartbeats 3200000 in
theorem tvalid_any (a : Option Addr) (m c : Nat) (ts : Tbl) (n : Int) (W : World) (hs : Tps W a m c ts) : Calls Tryz.prog 62 #[.slice a m c, .int .i64 n] W fun e w' => e = .returned (.int .i64 (tvCode ts n)) ∧ Below W.heap.size W w' := by
 have HL := kq hs.len; have nmx : (m : Int) ≤ 9223372036854775807 := by have := hs.nc; have := hs.cap; omega
 by_cases hc : n < 1 ∨ 128 < n ∨ m = 0 ∨ 128 < m
 ·
  rw [tv_8 (ts := ts) (n := n) (by rw [← HL.o]; exact hc)]; by_cases k1 : n < 1
  ·
   have k1' : decide (1 ≤ n ∧ n ≤ 128) = false := by simp; omega
   go_enter Tryz.func62, Tryz.ntmps62
   go_wp2
   all_goals (go_ret; exact ⟨rfl, Below.refl _ _⟩)
  by_cases k2 : 128 < n
  ·
   have k1' : decide (1 ≤ n ∧ n ≤ 128) = false := by simp; omega
   go_enter Tryz.func62, Tryz.ntmps62
   go_wp2
   all_goals (go_ret; exact ⟨rfl, Below.refl _ _⟩)
  have k1' : decide (1 ≤ n ∧ n ≤ 128) = true := by simp; omega
  have k3' : decide (1 ≤ (m : Int) ∧ (m : Int) ≤ 128) = false := by simp; omega
  have k4' : decide (1 ≤ m ∧ (m : Int) ≤ 128) = false := by simp; omega
  have k5' : decide (1 ≤ m ∧ m ≤ 128) = false := by simp; omega
  have k6' : decide (0 < m ∧ m ≤ 128) = false := by simp; omega
  rcases (show m = 0 ∨ 128 < m by omega) with rfl | k3
  all_goals
   go_enter Tryz.func62, Tryz.ntmps62
   go_wp2
   all_goals (go_ret; exact ⟨rfl, Below.refl _ _⟩)
 obtain ⟨n1, n2, m1, m2⟩ : 1 ≤ n ∧ n ≤ 128 ∧ 1 ≤ m ∧ m ≤ 128 := by omega
 have HC := kq (show ¬ (n < 1 ∨ 128 < n ∨ ts.length = 0 ∨ 128 < ts.length) by rw [← HL.o]; exact hc); clear hc; have m0 : ((m : Int) == 0) = false := by simp; omega
 obtain ⟨pb, po, hpa⟩ := hs.at (by omega); subst hpa; have HS := kq hs; clear hs; obtain ⟨B, hB⟩ : ∃ B, W.heap.size = B := ⟨_, rfl⟩; have HI0 := kq (St.init hB)
 go_enter Tryz.func62, Tryz.ntmps62
 go_wp2_with fail
 go_loopw [27] (fun i wr => ∃ j : Nat, j ≤ m ∧ tvTo ts j = 0 ∧ i = .int .i64 j ∧ St B W [] [] wr) (fun i _ => m - (intOf i).toNat)
 case atStart => exact ⟨0, by omega, rfl, rfl, HI0.o⟩
 case round =>
  obtain ⟨j, hj, htv, rfl, hst⟩ := hrel; obtain ⟨u1, rfl⟩ : ∃ u1 : World, u1 = wr := ⟨_, rfl⟩; have H2 := kq hst; clear hst; have HTV := kq htv; clear htv; by_cases hjn : j < m
  ·
   have hjn' : (j : Int) < m := by omega
   obtain ⟨ta, tn, tc, e1, e2, e3⟩ := HS.o.row (i := j) hjn; have HE1 := kq e1; have HE2 := kq e2; have f1 := H2.o.oldCell HE1.o; have f2 := H2.o.oldCell HE2.o; obtain ⟨p, hp⟩ : ∃ p, ts.getD j (0, []) = p := ⟨_, rfl⟩; obtain ⟨k, ws⟩ := p; rw [hp] at e3 HE1 f1; simp only at e3 HE1 f1; have HSL := kq e3; have HWL := kq e3.len; have tnm : (tn : Int) ≤ 9223372036854775807 := by have := e3.nc; have := e3.cap; omega
   have HP := kq hp; clear e1 e2 e3 hp; obtain ⟨D3, hD3⟩ := nK u1.heap.size; go_upto_region 6 with fail
   have H4 := kq (H2.o.alloc #[.int .i64 k, .slice ta tn tc] 59 hD3); first | refine gK H4 ?_ | refine gL H4 ?_ | refine gC H4 ?_
   clear H4; intro w5 H4; clear hD3
   rcases eqZ tn 0 with ⟨c6a, c6b, c6c, c6d, c6h⟩ | ⟨c6a, c6b, c6h⟩
   ·
    have z7 := H4.o.c2 0 rfl; go_wp2_with fail
    clear z7
    go_ret
    exact ⟨ret_i (tv_bad HC.o (by rw [← HL.o]; exact hjn) HTV.o (by rw [HP.o]; exact one9 (show ws.length = 0 ∨ 8 < ws.length from by rw [HWL.o]; have := c6h.o; omega)) (by decide)).symm, H4.o.bl⟩
   by_cases c9 : (8 : Int) < tn
   ·
    have z1 := H4.o.c2 0 rfl; go_wp2_with fail
    clear z1
    go_ret
    exact ⟨ret_i (tv_bad HC.o (by rw [← HL.o]; exact hjn) HTV.o (by rw [HP.o]; exact one9 (show ws.length = 0 ∨ 8 < ws.length from by rw [HWL.o]; have := c6h.o; omega)) (by decide)).symm, H4.o.bl⟩
   have z1 := H4.o.c2 0 rfl; go_wp2_with fail
   clear z1
   go_loopw [44] (fun i wr => ∃ q : Nat, q ≤ tn ∧ (∀ i, i < q → wOk (ws.getD i 0) = true) ∧ i = .int .i64 q ∧ St B W [.cells D3 #[.int .i64 k, .slice ta tn tc] 59] [] wr) (fun i _ => tn - (intOf i).toNat)
   case atStart => exact ⟨0, by omega, fun i hi => by omega, rfl, H4.o⟩
   case round =>
    obtain ⟨q, hq, hqa, rfl, hst⟩ := hrel; obtain ⟨u2, rfl⟩ : ∃ u2 : World, u2 = wr := ⟨_, rfl⟩; have H1 := kq hst; clear hst; have HQA := kq hqa; clear hqa; by_cases hqn : q < tn
    ·
     have hqn' : (q : Int) < tn := by omega
     obtain ⟨wb, wo, hta⟩ := row_at HSL.o.row (by omega); have cz := row_cell (by rw [← hta]; exact (H1.o.old HSL.o).row) (j := q) hqn; obtain ⟨z, hz⟩ := nK (ws.getD q 0); rw [hz] at cz; have HZ := kq hz; clear hz; have HTA := kq hta; by_cases c16 : (z : Int) < (-32767)
     ·
      go_wp2_with fail
      go_ret
      exact ⟨ret_i (tv_bad HC.o (by rw [← HL.o]; exact hjn) HTV.o (by rw [HP.o]; exact one10 (show ¬ (ws.length = 0 ∨ 8 < ws.length) from by rw [HWL.o]; have := c6h.o; omega) (wAll_bad (i := q) (by rw [HWL.o]; exact hqn) (by rw [HZ.o]; unfold wOk; simp; omega))) (by decide)).symm, H1.o.bl⟩
     by_cases c1 : (32767 : Int) < z
     ·
      go_wp2_with fail
      go_ret
      exact ⟨ret_i (tv_bad HC.o (by rw [← HL.o]; exact hjn) HTV.o (by rw [HP.o]; exact one10 (show ¬ (ws.length = 0 ∨ 8 < ws.length) from by rw [HWL.o]; have := c6h.o; omega) (wAll_bad (i := q) (by rw [HWL.o]; exact hqn) (by rw [HZ.o]; unfold wOk; simp; omega))) (by decide)).symm, H1.o.bl⟩
     go_wp2_with fail
     go_roundw
     case rel => exact ⟨q + 1, by omega, fun i hi => by rcases Nat.lt_or_ge i q with h' | h'; exact HQA.o i h'; rw [show i = q by omega, HZ.o]; unfold wOk; simp; omega, by go_num, H1.o⟩
     case measure => first | (simp [intOf]; omega) | (simp [intOf]; done)
    have hqn' : ¬ ((q : Int) < tn) := by omega
    have HWA := kq (show wAll ws = true from by unfold wAll; rw [List.all_eq_true]; intro x hx; obtain ⟨i, hi, rfl⟩ := mem_getD' hx; exact HQA.o i (by rw [HWL.o] at hi; omega)); have z1 := H1.o.c2 0 rfl; go_wp2_with fail
    clear z1; refine (tfirst_any _ _).mono ?_; rintro e w1 ⟨rfl, hsw⟩; have hsw2 : u2 = w1 := by first | exact hsw | exact hsw.symm
    clear hsw; subst hsw2; obtain ⟨b1, HNb1⟩ := nQ (tFirst k); rw [HNb1.o]; cases b1; rotate_left
    ·
     go_upto_region 16 with fail
     have H0 := kq (show tvOne (ts.getD j (0, [])) = 0 from by rw [HP.o]; exact one0 (show ¬ (ws.length = 0 ∨ 8 < ws.length) from by rw [HWL.o]; have := c6h.o; omega) HWA.o HNb1.o); go_wp2_with fail
     go_roundw
     case rel => exact ⟨j + 1, by omega, tvTo_next HTV.o H0.o, by go_num, H1.o.pick [] rfl (by decide)⟩
     case measure => first | (simp [intOf]; omega) | (simp [intOf]; done)
    go_wp2_with fail
    go_ret
    exact ⟨ret_i (tv_bad HC.o (by rw [← HL.o]; exact hjn) HTV.o (by rw [HP.o]; exact one2 (show ¬ (ws.length = 0 ∨ 8 < ws.length) from by rw [HWL.o]; have := c6h.o; omega) HWA.o HNb1.o) (by decide)).symm, H1.o.bl⟩
  have hjn' : ¬ ((j : Int) < m) := by omega
  have HJM := kq (show j = ts.length from by rw [← HL.o]; omega); go_wp2_with fail
  go_ret
  exact ⟨ret_i (tv_ok HC.o (by rw [← HJM.o]; exact HTV.o)).symm, H2.o.bl⟩

set_option maxRecDepth 100000 in
set_option maxHeartbeats 3200000 in
theorem rtvalid_any (a : Option Addr) (m c : Nat) (ts : Tbl) (n : Int) (W : World) (hs : Tps W a m c ts) : Calls Tryz.prog 94 #[.slice a m c, .int .i64 n] W fun e w' => e = .returned (.int .i64 (tvCode ts n)) ∧ Below W.heap.size W w' := by
 have HL := kq hs.len; have nmx : (m : Int) ≤ 9223372036854775807 := by have := hs.nc; have := hs.cap; omega
 by_cases hc : n < 1 ∨ 128 < n ∨ m = 0 ∨ 128 < m
 ·
  rw [tv_8 (ts := ts) (n := n) (by rw [← HL.o]; exact hc)]; by_cases k1 : n < 1
  ·
   have k1' : decide (1 ≤ n ∧ n ≤ 128) = false := by simp; omega
   go_enter Tryz.func94, Tryz.ntmps94
   go_wp2_with (go_at_call 57; refine (r8side_any _ _).mono ?_; rintro e w' ⟨rfl, rfl⟩)
   all_goals (go_ret; exact ⟨rfl, Below.refl _ _⟩)
  by_cases k2 : 128 < n
  ·
   have k1' : decide (1 ≤ n ∧ n ≤ 128) = false := by simp; omega
   go_enter Tryz.func94, Tryz.ntmps94
   go_wp2_with (go_at_call 57; refine (r8side_any _ _).mono ?_; rintro e w' ⟨rfl, rfl⟩)
   all_goals (go_ret; exact ⟨rfl, Below.refl _ _⟩)
  have k1' : decide (1 ≤ n ∧ n ≤ 128) = true := by simp; omega
  have k3' : decide (1 ≤ (m : Int) ∧ (m : Int) ≤ 128) = false := by simp; omega
  have k4' : decide (1 ≤ m ∧ (m : Int) ≤ 128) = false := by simp; omega
  have k5' : decide (1 ≤ m ∧ m ≤ 128) = false := by simp; omega
  have k6' : decide (0 < m ∧ m ≤ 128) = false := by simp; omega
  rcases (show m = 0 ∨ 128 < m by omega) with rfl | k3
  all_goals
   go_enter Tryz.func94, Tryz.ntmps94
   go_wp2_with (go_at_call 57; refine (r8side_any _ _).mono ?_; rintro e w' ⟨rfl, rfl⟩)
   all_goals (go_ret; exact ⟨rfl, Below.refl _ _⟩)
 obtain ⟨n1, n2, m1, m2⟩ : 1 ≤ n ∧ n ≤ 128 ∧ 1 ≤ m ∧ m ≤ 128 := by omega
 have HC := kq (show ¬ (n < 1 ∨ 128 < n ∨ ts.length = 0 ∨ 128 < ts.length) by rw [← HL.o]; exact hc); clear hc; have m0 : ((m : Int) == 0) = false := by simp; omega
 obtain ⟨pb, po, hpa⟩ := hs.at (by omega); subst hpa; have HS := kq hs; clear hs; obtain ⟨B, hB⟩ : ∃ B, W.heap.size = B := ⟨_, rfl⟩; have HI0 := kq (St.init hB)
 go_enter Tryz.func94, Tryz.ntmps94
 go_wp2_with fail
 refine (r8side_any _ _).mono ?_; rintro e w1 ⟨rfl, hsw⟩; have hsw2 : W = w1 := by first | exact hsw | exact hsw.symm
 clear hsw; subst hsw2; rw [show decide (1 ≤ (n : Int) ∧ (n : Int) ≤ 128) = true by simp; omega]; go_wp2_with fail
 refine (r8side_any _ _).mono ?_; rintro e w1 ⟨rfl, hsw⟩; have hsw2 : W = w1 := by first | exact hsw | exact hsw.symm
 clear hsw; subst hsw2; rw [show decide (1 ≤ (m : Int) ∧ (m : Int) ≤ 128) = true by simp; omega]; go_wp2_with fail
 go_loopw [5] (fun i wr => ∃ j : Nat, j ≤ m ∧ tvTo ts j = 0 ∧ i = .int .i64 j ∧ St B W [] [] wr) (fun i _ => m - (intOf i).toNat)
 case atStart => exact ⟨0, by omega, rfl, rfl, HI0.o⟩
 case round =>
  obtain ⟨j, hj, htv, rfl, hst⟩ := hrel; obtain ⟨u1, rfl⟩ : ∃ u1 : World, u1 = wr := ⟨_, rfl⟩; have H1 := kq hst; clear hst; have HTV := kq htv; clear htv; by_cases hjn : j < m
  ·
   have hjn' : (j : Int) < m := by omega
   obtain ⟨ta, tn, tc, e1, e2, e3⟩ := HS.o.row (i := j) hjn; have HE1 := kq e1; have HE2 := kq e2; have f1 := H1.o.oldCell HE1.o; have f2 := H1.o.oldCell HE2.o; obtain ⟨p, hp⟩ : ∃ p, ts.getD j (0, []) = p := ⟨_, rfl⟩; obtain ⟨k, ws⟩ := p; rw [hp] at e3 HE1 f1; simp only at e3 HE1 f1; have HSL := kq e3; have HWL := kq e3.len; have tnm : (tn : Int) ≤ 9223372036854775807 := by have := e3.nc; have := e3.cap; omega
   have HP := kq hp; clear e1 e2 e3 hp; obtain ⟨D1, hD1⟩ := nK u1.heap.size; go_upto_region 7 with fail
   have H2 := kq (H1.o.alloc #[.int .i64 k, .slice ta tn tc] 59 hD1); first | refine gK H2 ?_ | refine gL H2 ?_ | refine gC H2 ?_
   clear H2; intro w1 H2; clear hD1
   rcases eqZ tn 0 with ⟨c1a, c1b, c1c, c1d, c1h⟩ | ⟨c1a, c1b, c1h⟩
   ·
    have z1 := H2.o.c2 0 rfl; go_wp2_with fail
    clear z1
    go_ret
    exact ⟨ret_i (tv_bad HC.o (by rw [← HL.o]; exact hjn) HTV.o (by rw [HP.o]; exact one9 (show ws.length = 0 ∨ 8 < ws.length from by rw [HWL.o]; have := c1h.o; omega)) (by decide)).symm, H2.o.bl⟩
   by_cases c32 : (8 : Int) < tn
   ·
    have z1 := H2.o.c2 0 rfl; go_wp2_with fail
    clear z1
    go_ret
    exact ⟨ret_i (tv_bad HC.o (by rw [← HL.o]; exact hjn) HTV.o (by rw [HP.o]; exact one9 (show ws.length = 0 ∨ 8 < ws.length from by rw [HWL.o]; have := c1h.o; omega)) (by decide)).symm, H2.o.bl⟩
   have z1 := H2.o.c2 0 rfl; go_wp2_with fail
   clear z1; refine (rareweights_any _ _ _ ws _ (H2.o.old HSL.o)).mono ?_; rintro e w1 ⟨rfl, hb⟩; have H3 := kq (H2.o.call hb); clear hb; obtain ⟨b1, HNb1⟩ := nQ (wAll ws); rw [HNb1.o]; cases b1; rotate_left
   ·
    have z1 := H3.o.c2 0 rfl; go_wp2_with fail
    clear z1; refine (rfirst_any _ _).mono ?_; rintro e w2 ⟨rfl, hsw⟩; have hsw2 : w1 = w2 := by first | exact hsw | exact hsw.symm
    clear hsw; subst hsw2; obtain ⟨b1, HNb2⟩ := nQ (tFirst k); rw [HNb2.o]; cases b1; rotate_left
    ·
     go_upto_region 5 with fail
     have H0 := kq (show tvOne (ts.getD j (0, [])) = 0 from by rw [HP.o]; exact one0 (show ¬ (ws.length = 0 ∨ 8 < ws.length) from by rw [HWL.o]; have := c1h.o; omega) HNb1.o HNb2.o); go_wp2_with fail
     go_roundw
     case rel => exact ⟨j + 1, by omega, tvTo_next HTV.o H0.o, by go_num, H3.o.pick [] rfl (by decide)⟩
     case measure => first | (simp [intOf]; omega) | (simp [intOf]; done)
    go_wp2_with fail
    go_ret
    exact ⟨ret_i (tv_bad HC.o (by rw [← HL.o]; exact hjn) HTV.o (by rw [HP.o]; exact one2 (show ¬ (ws.length = 0 ∨ 8 < ws.length) from by rw [HWL.o]; have := c1h.o; omega) HNb1.o HNb2.o) (by decide)).symm, H3.o.bl⟩
   go_wp2_with fail
   go_ret
   exact ⟨ret_i (tv_bad HC.o (by rw [← HL.o]; exact hjn) HTV.o (by rw [HP.o]; exact one10 (show ¬ (ws.length = 0 ∨ 8 < ws.length) from by rw [HWL.o]; have := c1h.o; omega) HNb1.o) (by decide)).symm, H3.o.bl⟩
  have hjn' : ¬ ((j : Int) < m) := by omega
  have HJM := kq (show j = ts.length from by rw [← HL.o]; omega); go_wp2_with fail
  go_ret
  exact ⟨ret_i (tv_ok HC.o (by rw [← HJM.o]; exact HTV.o)).symm, H1.o.bl⟩
end

section
open Go.RowKit
attribute [local go_sem ↓] Go.wp_at_zero Go.wp_at_succ
set_option linter.unusedVariables false
set_option linter.unusedSimpArgs false

def TabPost (ts : Tbl) (code : Int) (W : World) (e : Ending) (w' : World) : Prop :=
 ∃ v, e = .returned (.tuple #[v, .int .i64 code]) ∧ OwnT W.heap.size w' v ts ∧ Below W.heap.size W w'
theorem tab_no {code : Int} {ts : Tbl} (ht : ts = []) {W w' : World} (hb : Below W.heap.size W w') : TabPost ts code W (.returned (.tuple #[.slice none 0 0, .int .i64 code])) w' := ⟨_, rfl, by rw [ht]; exact OwnT.nil _ _, hb⟩
theorem lnT_no {n m s : Int} (h : tgCode n m s ≠ 0) : lnT n m s = [] := by unfold lnT; rw [if_neg h]
theorem tg_8 {n m s : Int} (h : n < 1 ∨ 128 < n ∨ m < 1 ∨ 128 < m) : tgCode n m s = 8 := by unfold tgCode; rw [if_pos h]
theorem tg_2 {n m s : Int} (h : ¬ (n < 1 ∨ 128 < n ∨ m < 1 ∨ 128 < m)) (h2 : s < 0 ∨ 14 < s) : tgCode n m s = 2 := by unfold tgCode; rw [if_neg h, if_pos h2]
theorem tg_0 {n m s : Int} (h : ¬ (n < 1 ∨ 128 < n ∨ m < 1 ∨ 128 < m)) (h2 : ¬ (s < 0 ∨ 14 < s)) : tgCode n m s = 0 := by unfold tgCode; rw [if_neg h, if_neg h2]

set_option maxRecDepth 100000 in
set_option maxHeartbeats 6400000 in
theorem rlinear_any (n m s : Int) (W : World) : Calls Tryz.prog 36 #[.int .i64 n, .int .i64 m, .int .i64 s] W (TabPost (lnT n m s) (tgCode n m s) W) := by
 by_cases hc : n < 1 ∨ 128 < n ∨ m < 1 ∨ 128 < m
 ·
  have HC := kq (tg_8 (s := s) hc); rw [HC.o, lnT_no (by rw [HC.o]; decide)]; by_cases k1 : 1 ≤ n ∧ n ≤ 128
  ·
   have k1' : decide (1 ≤ n ∧ n ≤ 128) = true := by simp; omega
   have k2' : decide (1 ≤ m ∧ m ≤ 128) = false := by simp; omega
   go_enter Tryz.func36, Tryz.ntmps36
   go_wp2_with (go_at_call 57; refine (r8side_any _ _).mono ?_; rintro e w' ⟨rfl, rfl⟩)
   all_goals (go_ret2; exact tab_no rfl (Below.refl _ _))
  have k1' : decide (1 ≤ n ∧ n ≤ 128) = false := by simp; omega
  go_enter Tryz.func36, Tryz.ntmps36
  go_wp2_with (go_at_call 57; refine (r8side_any _ _).mono ?_; rintro e w' ⟨rfl, rfl⟩)
  all_goals (go_ret2; exact tab_no rfl (Below.refl _ _))
 have kn' : decide (1 ≤ n ∧ n ≤ 128) = true := by simp; omega
 have km' : decide (1 ≤ m ∧ m ≤ 128) = true := by simp; omega
 by_cases hs : s < 0 ∨ 14 < s
 ·
  have HC := kq (tg_2 hc hs); rw [HC.o, lnT_no (by rw [HC.o]; decide)]
  rcases hs with hs | hs
  all_goals
   go_enter Tryz.func36, Tryz.ntmps36
   go_wp2_with (go_at_call 57; refine (r8side_any _ _).mono ?_; rintro e w' ⟨rfl, rfl⟩)
   all_goals (go_ret2; exact tab_no rfl (Below.refl _ _))
 have HC := kq (tg_0 hc hs); obtain ⟨n1, n2, m1, m2⟩ : 1 ≤ n ∧ n ≤ 128 ∧ 1 ≤ m ∧ m ≤ 128 := by omega
 obtain ⟨s1, s2⟩ : 0 ≤ s ∧ s ≤ 14 := by omega
 clear hc hs kn' km'; obtain ⟨M, rfl⟩ : ∃ M : Nat, m = M := ⟨m.toNat, by omega⟩; obtain ⟨S, hS⟩ : ∃ S, (2 : Int) ^ s.toNat = S := ⟨_, rfl⟩; obtain ⟨S1, S2⟩ : 1 ≤ S ∧ S ≤ 16384 := by rw [← hS]; exact sh_bd ⟨s1, s2⟩
 have HS := kq hS; have sw : IntKind.i64.wrap S = S := IntWalk.i64_in _ (by omega); obtain ⟨B, hB⟩ : ∃ B, W.heap.size = B := ⟨_, rfl⟩; have HI0 := kq (St.init hB); rw [HC.o]
 go_enter Tryz.func36, Tryz.ntmps36
 go_wp2_with fail
 refine (r8side_any _ _).mono ?_; rintro e w3 ⟨rfl, hsw⟩; have hsw2 : W = w3 := by first | exact hsw | exact hsw.symm
 clear hsw; subst hsw2; rw [show decide (1 ≤ (n : Int) ∧ (n : Int) ≤ 128) = true by simp; omega]; go_wp2_with fail
 refine (r8side_any _ _).mono ?_; rintro e w3 ⟨rfl, hsw⟩; have hsw2 : W = w3 := by first | exact hsw | exact hsw.symm
 clear hsw; subst hsw2; rw [show decide (1 ≤ ((M : Int) : Int) ∧ ((M : Int) : Int) ≤ 128) = true by simp; omega]; go_wp2_with fail
 have H1 := kq (HI0.o.arrNilE 59 2)
 go_loopw [9, 8] (fun i v wr => ∃ (j : Nat) (ga : Option Addr) (gc : Nat) (tp : List (Int × Ro)) (Rs : List Ro), j ≤ M ∧ tp.length = j ∧ tapD tp = lnTo n M s j ∧ TQ B Rs tp ∧ i = .int .i64 j ∧ v = .slice ga tp.length gc ∧ St B W [.arr (59) 2 (.slice ga tp.length gc) (tp.length) (tapV tp)] Rs wr) (fun i _ _ => M - (intOf i).toNat)
 case atStart => exact ⟨0, _, _, [], _, by omega, rfl, rfl, TQ.nil _ _, rfl, rfl, H1.o⟩
 case round =>
  obtain ⟨j, ga, gc, tp, Rs, hj, htl, htd, htq, rfl, rfl, hst⟩ := hrel; obtain ⟨u1, rfl⟩ : ∃ u1 : World, u1 = wr := ⟨_, rfl⟩; have H1 := kq hst; clear hst; have HTD := kq htd; have HTQ := kq htq; have htl2 : tp.length ≤ 1000000 := by omega
  have HTL := kq htl; clear htd htq htl; by_cases hjn : j < M
  ·
   have hjn' : (j : Int) < M := by omega
   obtain ⟨x1, x2, r1, r2, q1, q2, hk, hr⟩ := ln_facts (n := n) (m := (M : Int)) (i := j) ⟨n1, n2⟩ ⟨m1, m2⟩ (by omega); obtain ⟨y1, y2, w1, w2⟩ := lnW_bd (n := n) (m := (M : Int)) (s := s) (i := j) ⟨m1, m2⟩ ⟨s1, s2⟩; obtain ⟨R1, R2⟩ := lnR_bd n (m := (M : Int)) j m1; have HW0 := kq (lnW_ref n (M : Int) s j m1); have HWD := kq (show lnW n (M : Int) s j = (lnR n (M : Int) j * 2 ^ s.toNat + M) / (2 * M) from rfl); have HPD := kq (show lnP n (M : Int) j = (2 * (j : Int) + 1) * n - M from rfl); have HTP := kq (show lnTap n (M : Int) s j = (lnK n M j, [2 ^ s.toNat - lnW n M s j, lnW n M s j]) from rfl); obtain ⟨K, hK⟩ : ∃ K, lnK n (M : Int) j = K := ⟨_, rfl⟩; obtain ⟨R, hR⟩ : ∃ K, lnR n (M : Int) j = K := ⟨_, rfl⟩; obtain ⟨ww, hW⟩ : ∃ K, lnW n (M : Int) s j = K := ⟨_, rfl⟩; obtain ⟨P, hP⟩ : ∃ K, lnP n (M : Int) j = K := ⟨_, rfl⟩; rw [hS] at HW0 HWD HTP y1 y2 w2; rw [hK] at hk HTP; rw [hR] at hr HW0 HWD y1 y2 R1 R2; rw [hW] at HW0 HWD HTP w1 w2; rw [hP] at hk hr HPD r1 r2 q1 q2; clear hK hR hW hP; obtain ⟨X, hX⟩ : ∃ X, (2 * (j : Int) + 1) * n = X := ⟨_, rfl⟩; rw [hX] at x1 x2 HPD; have hXP : X - (M : Int) = P := HPD.o.symm; obtain ⟨q, hq⟩ : ∃ q, Int.tdiv P (2 * (M : Int)) = q := ⟨_, rfl⟩; obtain ⟨r, hrr⟩ : ∃ q, Int.tmod P (2 * (M : Int)) = q := ⟨_, rfl⟩; have HE := kq (Int.mul_tdiv_add_tmod P (2 * (M : Int))); rw [hq, hrr] at HE; rw [hq] at hk q1 q2; rw [hrr] at hk hr r1 r2; have HK := kq hk; have HR := kq hr; clear hk hr; have dm0 : ¬ (2 * (M : Int) = 0) := by omega
   have dm1 : ¬ (M = 0) := by omega
   have wq : IntKind.i64.wrap q = q := IntWalk.i64_in _ (by omega); have wr : IntKind.i64.wrap r = r := IntWalk.i64_in _ (by omega); have wm : IntKind.i64.wrap (2 * (M : Int)) = 2 * (M : Int) := IntWalk.i64_in _ (by omega); obtain ⟨QQ, hQQ⟩ := nK (q * (2 * (M : Int))); have hEQ : QQ + r = P := by have := HE.o; rw [← hQQ, Int.mul_comm]; exact this
   have wQ : IntKind.i64.wrap QQ = QQ := IntWalk.i64_in _ (by omega); have p1 : -128 ≤ P ∧ P ≤ 32640 := by omega
   obtain ⟨p1, p2⟩ := p1; by_cases hneg : P < QQ
   ·
    have hqK : q - 1 = K := by have := HK.o; rw [if_pos (by omega)] at this; exact this.symm
    have hrR : r + 2 * (M : Int) = R := by have := HR.o; rw [if_pos (by omega)] at this; exact this.symm
    obtain ⟨KM, hKM⟩ := nK (K * (2 * (M : Int))); have hKQ : KM = QQ - 2 * (M : Int) := by rw [← hKM, ← hqK, Int.sub_mul, Int.one_mul, hQQ]
    have hPR : P - KM = R := by omega
    have wK : IntKind.i64.wrap KM = KM := IntWalk.i64_in _ (by omega); obtain ⟨km1, km2⟩ : -100000 ≤ KM ∧ KM ≤ 100000 := by omega
    clear hKQ hrR; obtain ⟨Z, hZ⟩ : ∃ Z, 2 * R * S = Z := ⟨_, rfl⟩; obtain ⟨z1, z2⟩ : 0 ≤ Z ∧ Z ≤ 8388608 := by rw [← hZ, Int.mul_assoc]; omega
    rw [hZ] at HW0; have tw : Int.tdiv (Z + 2 * (M : Int)) (2 * (2 * (M : Int))) = ww := by rw [Int.tdiv_eq_ediv_of_nonneg (by omega)]; exact HW0.o
    have tw2 : (Z + 2 * (M : Int)) / (2 * (2 * (M : Int))) = ww := HW0.o; have wZ : IntKind.i64.wrap Z = Z := IntWalk.i64_in _ (by omega); have dm2 : ¬ (2 * (2 * (M : Int)) = 0) := by omega
    obtain ⟨D1, hD1⟩ := nK u1.heap.size; have H2 := kq (show St _ _ (.cells (D1 + 1) _ _ :: .cells D1 _ _ :: _) _ _ from ((H1.o.alloc #[.int .i64 (S - ww), .int .i64 ww] 3 hD1).alloc #[.int .i64 K, .slice (some ⟨D1, 0, none⟩) 2 2] 59 (by first | exact hD1 | simp [hD1]))); go_upto_region 8 with (at_builtin; refine append_vals rfl _ _ 31 59 2 32 (.agg #[.int .i64 0, .slice none 0 0]) Tryz.underlying31 info_tap rfl (by decide) (by decide) rfl B _ _ _ (D1 + 1) 1 1 [.int .i64 K, .slice (some ⟨D1, 0, none⟩) 2 2] rfl rfl rfl (H2.o.arrOfT 2 rfl) (lit_news H2.o 0 [.int .i64 K, .slice (some ⟨D1, 0, none⟩) 2 2] rfl) (by intro u hu; simp at hu; rcases hu with rfl | rfl <;> rfl) (by omega) H2.o.size ?_; intro v1 w3 ho hg hv; have H32 := kq (H2.o.appendE 2 rfl ho hg hv); clear ho hg hv)
    clear H2; obtain ⟨g1, c1, hva⟩ := arr_posT (H32.o.arrOfT 2 rfl) (by omega); subst hva; clear hD1; go_wp2_with fail
    have H2 := H32.o.pick (l' := [.cells D1 #[.int .i64 (S - ww), .int .i64 ww] 3, .arr (59) 2 (.slice (some ⟨g1, 0, none⟩) (tp.length + 1) c1) (tp.length + 1) (tapV tp ++ [.int .i64 K, .slice (some ⟨D1, 0, none⟩) 2 2])]) [1, 2] rfl (by decide); obtain ⟨hLY, hNW⟩ := H2.layLit 0 [S - ww, ww] rfl (by simp); simp only [List.eraseIdx] at hLY; rw [show tapV tp ++ [.int .i64 K, .slice (some ⟨D1, 0, none⟩) 2 2] = tapV (tp ++ [(K, ⟨some ⟨D1, 0, none⟩, 2, 2, [S - ww, ww]⟩)]) from by rw [tapV_app]; rfl] at hLY
    go_roundw
    case rel => exact ⟨j + 1, _, _, tp ++ [(K, ⟨some ⟨D1, 0, none⟩, 2, 2, [S - ww, ww]⟩)], _, by omega, by rw [List.length_append, HTL.o]; rfl, by rw [tapD_app, HTD.o]; unfold lnTo; rw [range_snoc, HTP.o]; rfl, HTQ.o.snoc hNW, by go_num, by rw [List.length_append]; rfl, by rw [List.length_append]; exact hLY⟩
    case measure => first | (simp [intOf]; omega) | (simp [intOf]; done)
   obtain rfl : K = q := by have h3 := HK.o; rw [if_neg (by omega)] at h3; exact h3
   obtain rfl : R = r := by have h2 := HR.o; rw [if_neg (by omega)] at h2; exact h2
   have hPR : P - QQ = R := by omega
   obtain ⟨Z, hZ⟩ : ∃ Z, 2 * R * S = Z := ⟨_, rfl⟩; obtain ⟨z1, z2⟩ : 0 ≤ Z ∧ Z ≤ 8388608 := by rw [← hZ, Int.mul_assoc]; omega
   rw [hZ] at HW0; have tw : Int.tdiv (Z + 2 * (M : Int)) (2 * (2 * (M : Int))) = ww := by rw [Int.tdiv_eq_ediv_of_nonneg (by omega)]; exact HW0.o
   have tw2 : (Z + 2 * (M : Int)) / (2 * (2 * (M : Int))) = ww := HW0.o; have wZ : IntKind.i64.wrap Z = Z := IntWalk.i64_in _ (by omega); have dm2 : ¬ (2 * (2 * (M : Int)) = 0) := by omega
   obtain ⟨D1, hD1⟩ := nK u1.heap.size; have H2 := kq (show St _ _ (.cells (D1 + 1) _ _ :: .cells D1 _ _ :: _) _ _ from ((H1.o.alloc #[.int .i64 (S - ww), .int .i64 ww] 3 hD1).alloc #[.int .i64 K, .slice (some ⟨D1, 0, none⟩) 2 2] 59 (by first | exact hD1 | simp [hD1]))); go_upto_region 8 with (at_builtin; refine append_vals rfl _ _ 31 59 2 32 (.agg #[.int .i64 0, .slice none 0 0]) Tryz.underlying31 info_tap rfl (by decide) (by decide) rfl B _ _ _ (D1 + 1) 1 1 [.int .i64 K, .slice (some ⟨D1, 0, none⟩) 2 2] rfl rfl rfl (H2.o.arrOfT 2 rfl) (lit_news H2.o 0 [.int .i64 K, .slice (some ⟨D1, 0, none⟩) 2 2] rfl) (by intro u hu; simp at hu; rcases hu with rfl | rfl <;> rfl) (by omega) H2.o.size ?_; intro v1 w3 ho hg hv; have H3 := kq (H2.o.appendE 2 rfl ho hg hv); clear ho hg hv)
   clear H2; obtain ⟨g1, c1, hva⟩ := arr_posT (H3.o.arrOfT 2 rfl) (by omega); subst hva; clear hD1; go_wp2_with fail
   have H2 := H3.o.pick (l' := [.cells D1 #[.int .i64 (S - ww), .int .i64 ww] 3, .arr (59) 2 (.slice (some ⟨g1, 0, none⟩) (tp.length + 1) c1) (tp.length + 1) (tapV tp ++ [.int .i64 K, .slice (some ⟨D1, 0, none⟩) 2 2])]) [1, 2] rfl (by decide); obtain ⟨hLY, hNW⟩ := H2.layLit 0 [S - ww, ww] rfl (by simp); simp only [List.eraseIdx] at hLY; rw [show tapV tp ++ [.int .i64 K, .slice (some ⟨D1, 0, none⟩) 2 2] = tapV (tp ++ [(K, ⟨some ⟨D1, 0, none⟩, 2, 2, [S - ww, ww]⟩)]) from by rw [tapV_app]; rfl] at hLY
   go_roundw
   case rel => exact ⟨j + 1, _, _, tp ++ [(K, ⟨some ⟨D1, 0, none⟩, 2, 2, [S - ww, ww]⟩)], _, by omega, by rw [List.length_append, HTL.o]; rfl, by rw [tapD_app, HTD.o]; unfold lnTo; rw [range_snoc, HTP.o]; rfl, HTQ.o.snoc hNW, by go_num, by rw [List.length_append]; rfl, by rw [List.length_append]; exact hLY⟩
   case measure => first | (simp [intOf]; omega) | (simp [intOf]; done)
  have hjn' : ¬ ((j : Int) < M) := by omega
  have HJM := kq (show j = M by omega); go_wp2_with fail
  go_ret2
  exact ⟨_, rfl, by rw [hB, show lnT n M s = tapD tp from by unfold lnT; rw [if_pos HC.o, HTD.o, HJM.o]; rfl]; exact H1.o.outT 0 rfl HTQ.o, H1.o.bl⟩
end

section
open Go.RowKit
attribute [local go_sem ↓] Go.wp_at_zero Go.wp_at_succ
set_option linter.unusedVariables false
set_option linter.unusedSimpArgs false

theorem set_getT {ol : List Int} {j : Nat} {v : Int} (hj : j < ol.length) (i : Nat) : (ol.set j v).getD i 0 = if i = j then v else ol.getD i 0 := by
 rw [List.getD_eq_getElem?_getD, List.getElem?_set]; by_cases h : j = i
 ·
  subst h; simp [hj]
 rw [if_neg h, if_neg (fun e => h e.symm), List.getD_eq_getElem?_getD]
structure DvTo (total n : Int) (l ws rs : List Int) (j : Nat) : Prop where
 lw : ws.length = l.length
 lr : rs.length = l.length
 vw : ∀ i, i < j → ws.getD i 0 = total * l.getD i 0 / n
 vr : ∀ i, i < j → rs.getD i 0 = total * l.getD i 0 % n
theorem DvTo.zero {total n : Int} {l : List Int} {k : Nat} (h : k = l.length) : DvTo total n l (List.replicate k 0) (List.replicate k 0) 0 := ⟨by simp [h], by simp [h], fun i hi => by omega, fun i hi => by omega⟩
theorem DvTo.next {total n : Int} {l ws rs : List Int} {j : Nat} (h : DvTo total n l ws rs j) (hj : j < l.length) {x y : Int} (hx : total * l.getD j 0 / n = x) (hy : total * l.getD j 0 % n = y) : DvTo total n l (ws.set j x) (rs.set j y) (j + 1) := by
 refine ⟨by simp [h.lw], by simp [h.lr], fun i hi => ?_, fun i hi => ?_⟩
 ·
  rw [set_getT (by rw [h.lw]; exact hj)]; split
  ·
   rename_i e; rw [e, hx]
  exact h.vw i (by omega)
 rw [set_getT (by rw [h.lr]; exact hj)]; split
 ·
  rename_i e; rw [e, hy]
 exact h.vr i (by omega)
theorem eqD {a b : List Int} (hl : a.length = b.length) (h : ∀ i, i < a.length → a.getD i 0 = b.getD i 0) : a = b := by
 refine List.ext_getElem hl fun i h1 h2 => ?_
 have := h i h1
 rwa [List.getD_eq_getElem?_getD, List.getD_eq_getElem?_getD, List.getElem?_eq_getElem h1, List.getElem?_eq_getElem h2] at this
theorem DvTo.all {total n : Int} {l ws rs : List Int} (h : DvTo total n l ws rs l.length) : ws = dvF total n l ∧ rs = dvR total n l :=
 ⟨eqD (by rw [h.lw, dvF_len]) fun i hi => by rw [dvF_get]; exact h.vw i (by rw [h.lw] at hi; exact hi), eqD (by rw [h.lr, dvR_len]) fun i hi => by rw [dvR_get]; exact h.vr i (by rw [h.lr] at hi; exact hi)⟩
structure DvIn (total n : Int) (l : List Int) : Prop where
 t0 : 0 ≤ total
 t1 : total ≤ 16384
 n0 : 1 ≤ n
 n1 : n ≤ 128
 ln : l.length ≤ 128
 l0 : 1 ≤ l.length
 all : ∀ i, 0 ≤ l.getD i 0 ∧ l.getD i 0 ≤ 128
theorem DvIn.one {total n : Int} {l : List Int} (h : DvIn total n l) (i : Nat) : 0 ≤ total * l.getD i 0 ∧ total * l.getD i 0 ≤ 2097152 ∧ 0 ≤ total * l.getD i 0 / n ∧ total * l.getD i 0 / n ≤ 2097152 ∧ 0 ≤ total * l.getD i 0 % n ∧ total * l.getD i 0 % n < n := by
 obtain ⟨a1, a2⟩ := h.all i; have h1 : 0 ≤ total * l.getD i 0 := Int.mul_nonneg h.t0 a1; have h2 : total * l.getD i 0 ≤ 16384 * 128 := Int.mul_le_mul h.t1 a2 a1 (by omega); have h3 := h.n0; have h4 := Int.ediv_le_self n h1; exact ⟨h1, by omega, Int.ediv_nonneg h1 (by omega), by omega, Int.emod_nonneg _ (by omega), Int.emod_lt_of_pos _ (by omega)⟩
theorem dvM_bd {total n : Int} {l : List Int} (h : DvIn total n l) (j : Nat) : total - 2097152 * (j : Int) ≤ dvM total n l j ∧ dvM total n l j ≤ total := by
 unfold dvM
 have : 0 ≤ sumN (fun i => total * l.getD i 0 / n) j ∧ sumN (fun i => total * l.getD i 0 / n) j ≤ 2097152 * (j : Int) := by
  induction j with
  | zero => simp [sumN]
  | succ j ih => have := h.one j; simp only [sumN]; omega
 omega
theorem dvGo_step (p : List Int × List Int) (k : Nat) : dvGo p (k + 1) = dvStep (dvGo p k) := rfl
structure DvGo (total n : Int) (l ws rs : List Int) (k : Nat) : Prop where
 eq : (ws, rs) = dvGo (dvF total n l, dvR total n l) k
theorem DvGo.lw {total n : Int} {l ws rs : List Int} {k : Nat} (h : DvGo total n l ws rs k) : ws.length = l.length := by have := congrArg (fun p => p.1.length) h.eq; simp only at this; rw [this, (dvGo_len _ _).1, dvF_len]
theorem DvGo.lr {total n : Int} {l ws rs : List Int} {k : Nat} (h : DvGo total n l ws rs k) : rs.length = l.length := by have := congrArg (fun p => p.2.length) h.eq; simp only at this; rw [this, (dvGo_len _ _).2, dvR_len]
theorem DvGo.next {total n : Int} {l ws rs : List Int} {k g : Nat} (h : DvGo total n l ws rs k) (hg : g = amax rs rs.length) {x : Int} (hx : ws.getD g 0 = x) : DvGo total n l (ws.set g (x + 1)) (rs.set g (-1)) (k + 1) := by
 refine ⟨?_⟩; rw [dvGo_step, ← h.eq, hg] at *; subst hx
 rfl
def DvPost (total n : Int) (l : List Int) (W : World) (e : Ending) (w' : World) : Prop := ∃ v, e = .returned v ∧ Own W.heap.size w' v (dvW total n l) ∧ Below W.heap.size W w'
theorem DvGo.bd {total n : Int} {l ws rs : List Int} {k : Nat} (hi : DvIn total n l) (h : DvGo total n l ws rs k) (g : Nat) : 0 ≤ ws.getD g 0 ∧ ws.getD g 0 ≤ 2097152 + (k : Int) ∧ -1 ≤ rs.getD g 0 ∧ rs.getD g 0 ≤ 128 := by
 have gen : ∀ k, ∀ g, 0 ≤ (dvGo (dvF total n l, dvR total n l) k).1.getD g 0 ∧ (dvGo (dvF total n l, dvR total n l) k).1.getD g 0 ≤ 2097152 + (k : Int) ∧ -1 ≤ (dvGo (dvF total n l, dvR total n l) k).2.getD g 0 ∧ (dvGo (dvF total n l, dvR total n l) k).2.getD g 0 ≤ 128 := by
  intro k
  induction k with
  | zero =>
   intro g; have := hi.one g; have := hi.n1; simp only [dvGo]; rw [dvF_get, dvR_get]; omega
  | succ k ih =>
   intro g; obtain ⟨p, hp⟩ : ∃ p, dvGo (dvF total n l, dvR total n l) k = p := ⟨_, rfl⟩; simp only [dvGo]; rw [hp] at ih ⊢
   unfold dvStep
   obtain ⟨b, hb⟩ : ∃ b, amax p.2 p.2.length = b := ⟨_, rfl⟩; rw [hb]
   have hs : ∀ (q : List Int) (v : Int), (q.set b v).getD g 0 = q.getD g 0 ∨ (q.set b v).getD g 0 = v := by
    intro q v; rw [List.getD_eq_getElem?_getD, List.getElem?_set]
    split
    ·
     split
     ·
      right; rfl
     rename_i e1 e2; subst e1; left; rw [List.getD_eq_getElem?_getD, List.getElem?_eq_none (by omega)]
    left; rw [List.getD_eq_getElem?_getD]
   have i1 := ih g; have i2 := ih b; simp only
   rcases hs p.1 (p.1.getD b 0 + 1) with e1 | e1 <;> rcases hs p.2 (-1) with e2 | e2 <;> rw [e1, e2] <;> omega
 have e := h.eq; have := gen k g; rw [← e] at this; exact this
theorem sumN_bd128 {total n : Int} {l : List Int} (h : DvIn total n l) (j : Nat) : 0 ≤ sumN (fun i => l.getD i 0) j ∧ sumN (fun i => l.getD i 0) j ≤ 128 * (j : Int) := by
 induction j with
 | zero => simp [sumN]
 | succ j ih => have := h.all j; simp only [sumN]; omega

set_option maxRecDepth 100000 in
set_option maxHeartbeats 6400000 in
theorem rdivide_any (total n : Int) (a : Option Addr) (N c : Nat) (l : List Int) (W : World) (hs : Slc W a N c l) (hi : DvIn total n l) (hsum : sumN (fun i => l.getD i 0) l.length = n) : Calls Tryz.prog 58 #[.int .i64 total, .slice a N c] W (DvPost total n l W) := by
 have HI := kq hi; have HL := kq hs.len; obtain ⟨N1, N2⟩ : 1 ≤ N ∧ N ≤ 128 := by have := hi.ln; have := hi.l0; have := hs.len; omega
 obtain ⟨t1, t2, n1, n2⟩ : 0 ≤ total ∧ total ≤ 16384 ∧ 1 ≤ n ∧ n ≤ 128 := ⟨hi.t0, hi.t1, hi.n0, hi.n1⟩; obtain ⟨pb, po, hpa⟩ := row_at hs.row (by omega); subst hpa; have HS := kq hs; have HSU := kq hsum; clear hsum; clear hs hi; have nd0 : ¬ (n = 0) := by omega
 obtain ⟨B, hB⟩ : ∃ B, W.heap.size = B := ⟨_, rfl⟩; have HI0 := kq (St.init hB)
 go_enter Tryz.func58, Tryz.ntmps58
 go_wp2_with fail
 go_loopw [6, 5] (fun i x wr => ∃ (j : Nat) (su : Int), j ≤ N ∧ su = sumN (fun i => l.getD i 0) j ∧ i = .int .i64 j ∧ x = .int .i64 su ∧ St B W [] [] wr) (fun i _ _ => N - (intOf i).toNat)
 case atStart => exact ⟨0, _, by omega, rfl, rfl, rfl, HI0.o⟩
 case round =>
  obtain ⟨j, su, hj, hsu, rfl, rfl, hst⟩ := hrel; obtain ⟨u1, rfl⟩ : ∃ u1 : World, u1 = wr := ⟨_, rfl⟩; have H1 := kq hst; clear hst; have HSJ := kq hsu; have hsb : 0 ≤ su ∧ su ≤ 128 * (j : Int) := by rw [hsu]; exact sumN_bd128 HI.o j
  obtain ⟨sb1, sb2⟩ := hsb; clear hsu; by_cases hjn : j < N
  ·
   have hjn' : (j : Int) < N := by omega
   obtain ⟨z, hz⟩ := nK (l.getD j 0); obtain ⟨zb1, zb2⟩ := HI.o.all j; rw [hz] at zb1 zb2; have HZ := kq hz; clear hz; have cz := row_cell (H1.o.old HS.o).row (j := j) hjn; rw [HZ.o] at cz; go_wp2_with fail
   go_roundw
   case rel => exact ⟨j + 1, _, by omega, by simp only [sumN]; rw [← HSJ.o, HZ.o], by go_num, rfl, H1.o⟩
   case measure => first | (simp [intOf]; omega) | (simp [intOf]; done)
  have hjn' : ¬ ((j : Int) < N) := by omega
  obtain rfl : n = su := by rw [HSJ.o, ← HSU.o, HL.o, show j = N by omega]
  go_upto_region 6 with fail
  have H2 := kq H1.o.drew; refine wp_region_held_drew (S := (fun _ => True)) (by kernel_rfl) trivial (fun hHeld => ?_); generalize u1.drew = k2 at *; refine tk 0 ?_; refine tk 1 ?_; refine tk 3 ?_; refine tk 4 ?_; refine wpAnyH_ready (rs := [2, 5]) (by kernel_rfl) (by simp) (AllReadyH.cons (o := _) rfl (fun K hK => ?_) (AllReadyH.cons (o := _) rfl (fun K hK => ?_) AllReadyH.nil))
  ·
   obtain ⟨DA, hDA⟩ : ∃ L, k2.heap.size = L := ⟨_, rfl⟩; have hBDA : B ≤ DA := by have := H2.o.size; omega
   rw [if_pos (by rfl)]; refine oper_make_int _ _ rfl DA _ _ N rfl rfl (by rfl) (by rfl) (by omega) (by omega) ?_; intro k3 ho hb; rw [hDA] at ho ⊢; have H1 := kq (H2.o.made hDA ho hb); clear ho hb hDA hBDA; refine hK.out _ _ ?_ (fun hHeld2 => ?_)
   focus ((try dsimp only); (try exact trivial))
   clear hK K; try simp only [pz]
   clear hHeld; have hHeld := hHeld2; clear hHeld2; refine tk 6 ?_; refine rdy 5 fun K hK => ?_
   skip
   obtain ⟨DB, hDB⟩ : ∃ L, k3.heap.size = L := ⟨_, rfl⟩; have hBDB : B ≤ DB := by have := H1.o.size; omega
   rw [if_pos (by rfl)]; refine oper_make_int _ _ rfl DB _ _ N rfl rfl (by rfl) (by rfl) (by omega) (by omega) ?_; intro k3 ho hb; rw [hDB] at ho ⊢; have H3 := kq (H1.o.made hDB ho hb); clear ho hb hDB hBDB; refine hK.out _ _ ?_ (fun hHeld2 => ?_)
   focus ((try dsimp only); (try exact trivial))
   clear hK K; try simp only [pz]
   clear hHeld; have hHeld := hHeld2; clear hHeld2; refine tk 7 ?_; refine wpAnyH_done (by kernel_rfl) ?_ _; try clear hHeld
   go_wp2_with fail
   go_loopw [10, 9] (fun i x wr => ∃ (j : Nat) (ws rs : List Int) (mi : Int), j ≤ N ∧ DvTo total n l ws rs j ∧ mi = dvM total n l j ∧ i = .int .i64 j ∧ x = .int .i64 mi ∧ St B W [.own (.slice (some ⟨DA, 0, none⟩) N N) ws, .own (.slice (some ⟨DB, 0, none⟩) N N) rs] [] wr) (fun i _ _ => N - (intOf i).toNat)
   case atStart => exact ⟨0, _, _, _, by omega, DvTo.zero HL.o.symm, by unfold dvM; simp [sumN], rfl, rfl, H3.o.pick [1, 0] rfl (by decide)⟩
   case round =>
    obtain ⟨j, ws, rs, mi, hj, hto, hmi, rfl, rfl, hst⟩ := hrel; obtain ⟨u1, rfl⟩ : ∃ u1 : World, u1 = wr := ⟨_, rfl⟩; have H1 := kq hst; clear hst; have hmb : -268435456 ≤ mi ∧ mi ≤ 16384 := by have := dvM_bd HI.o j; omega
    obtain ⟨mb1, mb2⟩ := hmb; have HTO := kq hto; have HMI := kq hmi; clear hto hmi; by_cases hjn : j < N
    ·
     have hjn' : (j : Int) < N := by omega
     obtain ⟨z, hz⟩ := nK (l.getD j 0); obtain ⟨x1, x2, x3, x4, x5, x6⟩ := HI.o.one j; obtain ⟨zb1, zb2⟩ := HI.o.all j; rw [hz] at x1 x2 x3 x4 x5 x6 zb1 zb2; obtain ⟨X, hX⟩ : ∃ X, total * z = X := ⟨_, rfl⟩; rw [hX] at x1 x2 x3 x4 x5 x6; obtain ⟨q, hq⟩ : ∃ q, X / n = q := ⟨_, rfl⟩; obtain ⟨r, hr⟩ : ∃ q, X % n = q := ⟨_, rfl⟩; rw [hq] at x3 x4; rw [hr] at x5 x6; have tq : Int.tdiv X n = q := by rw [Int.tdiv_eq_ediv_of_nonneg (by omega)]; exact hq
     have tr : Int.tmod X n = r := by rw [Int.tmod_eq_emod_of_nonneg (by omega)]; exact hr
     have wX : IntKind.i64.wrap X = X := IntWalk.i64_in _ (by omega); have wq : IntKind.i64.wrap q = q := IntWalk.i64_in _ (by omega); have wr : IntKind.i64.wrap r = r := IntWalk.i64_in _ (by omega); have HQ := kq (show total * l.getD j 0 / n = q from by rw [hz, hX, hq]); have HR := kq (show total * l.getD j 0 % n = r from by rw [hz, hX, hr]); have HZ := kq hz; clear hz; have cz := row_cell (H1.o.old HS.o).row (j := j) hjn; rw [HZ.o] at cz; go_upto_region 11 with fail
     have H3 := kq H1.o.drew; refine wp_region_held_drew (S := (fun w' => w'.cell? ⟨pb, po + j, none⟩ = some (.int .i64 z))) (by kernel_rfl) (by have := row_cell (H3.o.old HS.o).row (j := j) hjn; rw [HZ.o] at this; exact this) (fun hHeld => ?_); generalize u1.drew = k3 at *; refine tk 0 ?_; refine tk 1 ?_; refine tk 2 ?_; refine tk 3 ?_; refine tk 4 ?_; refine tk 5 ?_; refine tk 6 ?_; refine tk 7 ?_; refine tk 8 ?_; refine tk 9 ?_; refine tk 10 ?_; refine tk 11 ?_; refine tk 12 ?_; refine tk 13 ?_; refine tk 14 ?_; refine tk 15 ?_; refine tk 16 ?_; refine tk 17 ?_; refine tk 18 ?_; refine tk 19 ?_; refine tk 20 ?_; refine rdy 21 fun K hK => ?_
     obtain ⟨s1, s32⟩ := H3.o.get 0 rfl (j := j) (by rw [HTO.o.lw, HL.o]; exact hjn); have H4 := kq (show St _ _ (.own (.slice (some ⟨DA, 0, none⟩) N N) (ws.set j q) :: _) _ _ from (H3.o.store 0 rfl j q)); go_simp
     refine hK.out _ _ (by (try dsimp only); exact (by have := row_cell (H4.o.old HS.o).row (j := j) hjn; rw [HZ.o] at this; exact this)) ?_; clear hK K hHeld; intro hHeld; try simp only [pz]
     clear s1 s32; generalize (k3.setCell ⟨DA, j, none⟩ (.int .i64 q)) = k3 at *; refine tk 22 ?_; refine rdy 23 fun K hK => ?_
     obtain ⟨s1, s2⟩ := H4.o.get 1 rfl (j := j) (by rw [HTO.o.lr, HL.o]; exact hjn); have H3 := kq (show St _ _ (_ :: .own (.slice (some ⟨DB, 0, none⟩) N N) (rs.set j r) :: _) _ _ from (H4.o.store 1 rfl j r)); go_simp
     refine hK.out _ _ (by (try dsimp only); exact (by have := row_cell (H3.o.old HS.o).row (j := j) hjn; rw [HZ.o] at this; exact this)) ?_; clear hK K hHeld; intro hHeld; try simp only [pz]
     clear s1 s2; generalize (k3.setCell ⟨DB, j, none⟩ (.int .i64 r)) = k3 at *; refine wpAnyH_done (by kernel_rfl) ?_ _; try clear hHeld
     have s3 := (H3.o.get 0 rfl (j := j) (by rw [List.length_set, HTO.o.lw, HL.o]; exact hjn)).1; rw [set_getT (by rw [HTO.o.lw, HL.o]; exact hjn), if_pos rfl] at s3; go_wp2_with fail
     go_roundw
     case rel => exact ⟨j + 1, _, _, _, by omega, HTO.o.next (by rw [HL.o]; exact hjn) HQ.o HR.o, by unfold dvM; simp only [sumN]; rw [HQ.o]; have := HMI.o; unfold dvM at this; omega, by go_num, rfl, H3.o.pick [0, 1] rfl (by decide)⟩
     case measure => first | (simp [intOf]; omega) | (simp [intOf]; done)
    have hjn' : ¬ ((j : Int) < N) := by omega
    have HJN := kq (show j = l.length from by rw [HL.o]; omega); go_wp2_with fail
    have HA := kq (show DvGo total n l ws rs 0 from ⟨by rw [HJN.o] at HTO; rw [HTO.o.all.1, HTO.o.all.2]; rfl⟩); obtain ⟨M0, hM0⟩ : ∃ M0, dvM total n l l.length = M0 := ⟨_, rfl⟩; have HM0 := kq hM0; have HMJ := kq (show mi = M0 from by rw [← hM0, ← HJN.o]; exact HMI.o); obtain ⟨mq1, mq2⟩ : -268435456 ≤ M0 ∧ M0 ≤ 16384 := by have := HMJ.o; omega
    clear hM0
    go_loopw [9] (fun x wr => ∃ (k : Nat) (ws rs : List Int) (mi : Int), DvGo total n l ws rs k ∧ mi = M0 - (k : Int) ∧ (0 < k → 0 ≤ mi) ∧ x = .int .i64 mi ∧ St B W [.own (.slice (some ⟨DA, 0, none⟩) N N) ws, .own (.slice (some ⟨DB, 0, none⟩) N N) rs] [] wr) (fun x _ => (intOf x).toNat)
    case atStart => exact ⟨0, _, _, _, HA.o, by have := HMJ.o; omega, fun h => by omega, rfl, H1.o.pick [0, 1] rfl (by decide)⟩
    case round =>
     obtain ⟨k, ws, rs, mi, hgo, hmi, hkm, rfl, hst⟩ := hrel; obtain ⟨u1, rfl⟩ : ∃ u1 : World, u1 = wr := ⟨_, rfl⟩; have H1 := kq hst; clear hst; have HGO := kq hgo; have HMI := kq hmi; have HKM := kq hkm; obtain ⟨mi1, mi2, k1⟩ : -268435456 ≤ mi ∧ mi ≤ 16384 ∧ (k : Int) ≤ 16384 := by by_cases q : 0 < k; have := hkm q; omega; omega
     have HWL := kq (hgo.lw.trans HL.o); have HRL := kq (hgo.lr.trans HL.o); clear hgo hmi hkm; by_cases hm0 : 0 < mi
     ·
      go_wp2_with fail
      go_loopw [12, 11] (fun i y wr => ∃ q g : Nat, q ≤ N ∧ g = amax rs q ∧ g < N ∧ i = .int .i64 q ∧ y = .int .i64 g ∧ St B W [.own (.slice (some ⟨DA, 0, none⟩) N N) ws, .own (.slice (some ⟨DB, 0, none⟩) N N) rs] [] wr) (fun i _ _ => N - (intOf i).toNat)
      case atStart => exact ⟨1, 0, by omega, by first | rfl | exact (amax_one rs).symm, by omega, rfl, rfl, H1.o.pick [0, 1] rfl (by decide)⟩
      case round =>
       obtain ⟨q, g, hq, hg, hgn, rfl, rfl, hst⟩ := hrel; obtain ⟨u1, rfl⟩ : ∃ u1 : World, u1 = wr := ⟨_, rfl⟩; have H3 := kq hst; clear hst; have HG := kq hg; clear hg; by_cases hqn : q < N
       ·
        have hqn' : (q : Int) < N := by omega
        obtain ⟨u, hu⟩ : ∃ u, rs.getD q 0 = u := ⟨_, rfl⟩; obtain ⟨v, hv⟩ : ∃ u, rs.getD g 0 = u := ⟨_, rfl⟩; obtain ⟨-, -, ub1, ub2⟩ := HGO.o.bd HI.o q; obtain ⟨-, -, vb1, vb2⟩ := HGO.o.bd HI.o g; rw [hu] at ub1 ub2; rw [hv] at vb1 vb2; have HUV := kq (And.intro hu hv); clear hu hv; go_upto_region 19 with fail
        have H4 := kq H3.o.drew; refine wp_region_held_drew (S := (fun w' => w'.cell? ⟨DB, q, none⟩ = some (.int .i64 u) ∧ w'.cell? ⟨DB, g, none⟩ = some (.int .i64 v))) (by kernel_rfl) ⟨(by have := (H4.o.get 1 rfl (j := q) (by rw [HRL.o]; exact hqn)).1; rw [HUV.o.1] at this; exact this), (by have := (H4.o.get 1 rfl (j := g) (by rw [HRL.o]; exact hgn)).1; rw [HUV.o.2] at this; exact this)⟩ (fun hHeld => ?_); generalize u1.drew = k3 at *; refine tk 0 ?_; refine tk 1 ?_; refine tk 2 ?_; refine tk 3 ?_; refine tk 4 ?_; refine tk 5 ?_; refine tk 6 ?_; refine tk 7 ?_; refine tk 8 ?_; refine wpAnyH_done (by kernel_rfl) ?_ _; try clear hHeld
        by_cases hvu : v < u
        ·
         have HBN := kq (show q = amax rs (q + 1) from by simp only [amax]; rw [← HG.o, HUV.o.1, HUV.o.2, if_pos hvu]); go_wp2_with fail
         go_roundw
         case rel => exact ⟨q + 1, _, by omega, HBN.o, by omega, by go_num, by first | rfl | go_num, H4.o⟩
         case measure => first | (simp [intOf]; omega) | (simp [intOf]; done)
        have HBN := kq (show g = amax rs (q + 1) from by simp only [amax]; rw [← HG.o, HUV.o.1, HUV.o.2, if_neg hvu]); go_wp2_with fail
        go_roundw
        case rel => exact ⟨q + 1, _, by omega, HBN.o, by omega, by go_num, by first | rfl | go_num, H4.o⟩
        case measure => first | (simp [intOf]; omega) | (simp [intOf]; done)
       have hqn' : ¬ ((q : Int) < N) := by omega
       have HGM := kq (show g = amax rs rs.length from by rw [HRL.o, HG.o, show q = N by omega]); go_upto_region 21 with fail
       obtain ⟨u, hu⟩ : ∃ u, ws.getD g 0 = u := ⟨_, rfl⟩; obtain ⟨ub1, ub2, -, -⟩ := HGO.o.bd HI.o g; rw [hu] at ub1 ub2; obtain ⟨s3, s4⟩ := H3.o.get 0 rfl (j := g) (by rw [HWL.o]; exact hgn); rw [hu] at s3; have HU := kq hu; clear hu; go_upto_region 22 with fail
       have H4 := kq (show St _ _ (.own (.slice (some ⟨DA, 0, none⟩) N N) (ws.set g (u + 1)) :: _) _ _ from (H3.o.store 0 rfl g (u + 1))); first | refine gK H4 ?_ | refine gL H4 ?_ | refine gC H4 ?_
       clear H4; intro w1 H4; clear s3 s4; obtain ⟨s3, s4⟩ := H4.o.get 1 rfl (j := g) (by rw [HRL.o]; exact hgn); go_upto_region 14 with fail
       have H3 := kq (show St _ _ (_ :: .own (.slice (some ⟨DB, 0, none⟩) N N) (rs.set g (-1)) :: _) _ _ from (H4.o.store 1 rfl g (-1))); first | refine gK H3 ?_ | refine gL H3 ?_ | refine gC H3 ?_
       clear H3; intro w1 H3; go_wp2_with fail
       go_roundw
       case rel => exact ⟨k + 1, _, _, _, HGO.o.next HGM.o HU.o, by have := HMI.o; omega, fun _ => by omega, rfl, H3.o.pick [0, 1] rfl (by decide)⟩
       case measure => first | (simp [intOf]; omega) | (simp [intOf]; done)
     have HKK := kq (show k = M0.toNat from by have h1 := HMI.o; by_cases q : 0 < k; have := HKM.o q; omega; omega); go_wp2_with fail
     go_ret
     exact ⟨_, rfl, by rw [hB, show dvW total n l = ws from by unfold dvW; rw [HM0.o, ← HKK.o, ← HGO.o.eq]]; exact H1.o.own 0 rfl, H1.o.bl⟩
  obtain ⟨DB, hDB⟩ : ∃ L, k2.heap.size = L := ⟨_, rfl⟩; have hBDB : B ≤ DB := by have := H2.o.size; omega
  rw [if_pos (by rfl)]; refine oper_make_int _ _ rfl DB _ _ N rfl rfl (by rfl) (by rfl) (by omega) (by omega) ?_; intro k2 ho hb; rw [hDB] at ho ⊢; have H1 := kq (H2.o.made hDB ho hb); clear ho hb hDB hBDB; refine hK.out _ _ ?_ (fun hHeld2 => ?_)
  focus ((try dsimp only); (try exact trivial))
  clear hK K; try simp only [pz]
  clear hHeld; have hHeld := hHeld2; clear hHeld2; refine rdy 2 fun K hK => ?_
  skip
  obtain ⟨DA, hDA⟩ : ∃ L, k2.heap.size = L := ⟨_, rfl⟩; have hBDA : B ≤ DA := by have := H1.o.size; omega
  rw [if_pos (by rfl)]; refine oper_make_int _ _ rfl DA _ _ N rfl rfl (by rfl) (by rfl) (by omega) (by omega) ?_; intro k2 ho hb; rw [hDA] at ho ⊢; have H2 := kq (H1.o.made hDA ho hb); clear ho hb hDA hBDA; refine hK.out _ _ ?_ (fun hHeld2 => ?_)
  focus ((try dsimp only); (try exact trivial))
  clear hK K; try simp only [pz]
  clear hHeld; have hHeld := hHeld2; clear hHeld2; refine tk 6 ?_; refine tk 7 ?_; refine wpAnyH_done (by kernel_rfl) ?_ _; try clear hHeld
  go_wp2_with fail
  go_loopw [10, 9] (fun i x wr => ∃ (j : Nat) (ws rs : List Int) (mi : Int), j ≤ N ∧ DvTo total n l ws rs j ∧ mi = dvM total n l j ∧ i = .int .i64 j ∧ x = .int .i64 mi ∧ St B W [.own (.slice (some ⟨DA, 0, none⟩) N N) ws, .own (.slice (some ⟨DB, 0, none⟩) N N) rs] [] wr) (fun i _ _ => N - (intOf i).toNat)
  case atStart => exact ⟨0, _, _, _, by omega, DvTo.zero HL.o.symm, by unfold dvM; simp [sumN], rfl, rfl, H2.o.pick [0, 1] rfl (by decide)⟩
  case round =>
   obtain ⟨j, ws, rs, mi, hj, hto, hmi, rfl, rfl, hst⟩ := hrel; obtain ⟨u1, rfl⟩ : ∃ u1 : World, u1 = wr := ⟨_, rfl⟩; have H1 := kq hst; clear hst; have hmb : -268435456 ≤ mi ∧ mi ≤ 16384 := by have := dvM_bd HI.o j; omega
   obtain ⟨mb1, mb2⟩ := hmb; have HTO := kq hto; have HMI := kq hmi; clear hto hmi; by_cases hjn : j < N
   ·
    have hjn' : (j : Int) < N := by omega
    obtain ⟨z, hz⟩ := nK (l.getD j 0); obtain ⟨x1, x2, x3, x4, x5, x6⟩ := HI.o.one j; obtain ⟨zb1, zb2⟩ := HI.o.all j; rw [hz] at x1 x2 x3 x4 x5 x6 zb1 zb2; obtain ⟨X, hX⟩ : ∃ X, total * z = X := ⟨_, rfl⟩; rw [hX] at x1 x2 x3 x4 x5 x6; obtain ⟨q, hq⟩ : ∃ q, X / n = q := ⟨_, rfl⟩; obtain ⟨r, hr⟩ : ∃ q, X % n = q := ⟨_, rfl⟩; rw [hq] at x3 x4; rw [hr] at x5 x6; have tq : Int.tdiv X n = q := by rw [Int.tdiv_eq_ediv_of_nonneg (by omega)]; exact hq
    have tr : Int.tmod X n = r := by rw [Int.tmod_eq_emod_of_nonneg (by omega)]; exact hr
    have wX : IntKind.i64.wrap X = X := IntWalk.i64_in _ (by omega); have wq : IntKind.i64.wrap q = q := IntWalk.i64_in _ (by omega); have wr : IntKind.i64.wrap r = r := IntWalk.i64_in _ (by omega); have HQ := kq (show total * l.getD j 0 / n = q from by rw [hz, hX, hq]); have HR := kq (show total * l.getD j 0 % n = r from by rw [hz, hX, hr]); have HZ := kq hz; clear hz; have cz := row_cell (H1.o.old HS.o).row (j := j) hjn; rw [HZ.o] at cz; go_upto_region 11 with fail
    have H2 := kq H1.o.drew; refine wp_region_held_drew (S := (fun w' => w'.cell? ⟨pb, po + j, none⟩ = some (.int .i64 z))) (by kernel_rfl) (by have := row_cell (H2.o.old HS.o).row (j := j) hjn; rw [HZ.o] at this; exact this) (fun hHeld => ?_); generalize u1.drew = k2 at *; refine tk 0 ?_; refine tk 1 ?_; refine tk 2 ?_; refine tk 3 ?_; refine tk 4 ?_; refine tk 5 ?_; refine tk 6 ?_; refine tk 7 ?_; refine tk 8 ?_; refine tk 9 ?_; refine tk 10 ?_; refine tk 11 ?_; refine tk 12 ?_; refine tk 13 ?_; refine tk 14 ?_; refine tk 15 ?_; refine tk 16 ?_; refine tk 17 ?_; refine tk 18 ?_; refine tk 19 ?_; refine tk 20 ?_; refine rdy 21 fun K hK => ?_
    obtain ⟨s1, s2⟩ := H2.o.get 0 rfl (j := j) (by rw [HTO.o.lw, HL.o]; exact hjn); have H3 := kq (show St _ _ (.own (.slice (some ⟨DA, 0, none⟩) N N) (ws.set j q) :: _) _ _ from (H2.o.store 0 rfl j q)); go_simp
    refine hK.out _ _ (by (try dsimp only); exact (by have := row_cell (H3.o.old HS.o).row (j := j) hjn; rw [HZ.o] at this; exact this)) ?_; clear hK K hHeld; intro hHeld; try simp only [pz]
    clear s1 s2; generalize (k2.setCell ⟨DA, j, none⟩ (.int .i64 q)) = k2 at *; refine tk 22 ?_; refine rdy 23 fun K hK => ?_
    obtain ⟨s1, s2⟩ := H3.o.get 1 rfl (j := j) (by rw [HTO.o.lr, HL.o]; exact hjn); have H2 := kq (show St _ _ (_ :: .own (.slice (some ⟨DB, 0, none⟩) N N) (rs.set j r) :: _) _ _ from (H3.o.store 1 rfl j r)); go_simp
    refine hK.out _ _ (by (try dsimp only); exact (by have := row_cell (H2.o.old HS.o).row (j := j) hjn; rw [HZ.o] at this; exact this)) ?_; clear hK K hHeld; intro hHeld; try simp only [pz]
    clear s1 s2; generalize (k2.setCell ⟨DB, j, none⟩ (.int .i64 r)) = k64 at *; refine wpAnyH_done (by kernel_rfl) ?_ _; try clear hHeld
    have s3 := (H2.o.get 0 rfl (j := j) (by rw [List.length_set, HTO.o.lw, HL.o]; exact hjn)).1; rw [set_getT (by rw [HTO.o.lw, HL.o]; exact hjn), if_pos rfl] at s3; go_wp2_with fail
    go_roundw
    case rel => exact ⟨j + 1, _, _, _, by omega, HTO.o.next (by rw [HL.o]; exact hjn) HQ.o HR.o, by unfold dvM; simp only [sumN]; rw [HQ.o]; have := HMI.o; unfold dvM at this; omega, by go_num, rfl, H2.o.pick [0, 1] rfl (by decide)⟩
    case measure => first | (simp [intOf]; omega) | (simp [intOf]; done)
   have hjn' : ¬ ((j : Int) < N) := by omega
   have HJN := kq (show j = l.length from by rw [HL.o]; omega); go_wp2_with fail
   have HA := kq (show DvGo total n l ws rs 0 from ⟨by rw [HJN.o] at HTO; rw [HTO.o.all.1, HTO.o.all.2]; rfl⟩); obtain ⟨M0, hM0⟩ : ∃ M0, dvM total n l l.length = M0 := ⟨_, rfl⟩; have HM0 := kq hM0; have HMJ := kq (show mi = M0 from by rw [← hM0, ← HJN.o]; exact HMI.o); obtain ⟨mq1, mq2⟩ : -268435456 ≤ M0 ∧ M0 ≤ 16384 := by have := HMJ.o; omega
   clear hM0
   go_loopw [9] (fun x wr => ∃ (k : Nat) (ws rs : List Int) (mi : Int), DvGo total n l ws rs k ∧ mi = M0 - (k : Int) ∧ (0 < k → 0 ≤ mi) ∧ x = .int .i64 mi ∧ St B W [.own (.slice (some ⟨DA, 0, none⟩) N N) ws, .own (.slice (some ⟨DB, 0, none⟩) N N) rs] [] wr) (fun x _ => (intOf x).toNat)
   case atStart => exact ⟨0, _, _, _, HA.o, by have := HMJ.o; omega, fun h => by omega, rfl, H1.o.pick [0, 1] rfl (by decide)⟩
   case round =>
    obtain ⟨k, ws, rs, mi, hgo, hmi, hkm, rfl, hst⟩ := hrel; obtain ⟨u1, rfl⟩ : ∃ u1 : World, u1 = wr := ⟨_, rfl⟩; have H1 := kq hst; clear hst; have HGO := kq hgo; have HMI := kq hmi; have HKM := kq hkm; obtain ⟨mi1, mi2, k1⟩ : -268435456 ≤ mi ∧ mi ≤ 16384 ∧ (k : Int) ≤ 16384 := by by_cases q : 0 < k; have := hkm q; omega; omega
    have HWL := kq (hgo.lw.trans HL.o); have HRL := kq (hgo.lr.trans HL.o); clear hgo hmi hkm; by_cases hm0 : 0 < mi
    ·
     go_wp2_with fail
     go_loopw [12, 11] (fun i y wr => ∃ q g : Nat, q ≤ N ∧ g = amax rs q ∧ g < N ∧ i = .int .i64 q ∧ y = .int .i64 g ∧ St B W [.own (.slice (some ⟨DA, 0, none⟩) N N) ws, .own (.slice (some ⟨DB, 0, none⟩) N N) rs] [] wr) (fun i _ _ => N - (intOf i).toNat)
     case atStart => exact ⟨1, 0, by omega, by first | rfl | exact (amax_one rs).symm, by omega, rfl, rfl, H1.o.pick [0, 1] rfl (by decide)⟩
     case round =>
      obtain ⟨q, g, hq, hg, hgn, rfl, rfl, hst⟩ := hrel; obtain ⟨u1, rfl⟩ : ∃ u1 : World, u1 = wr := ⟨_, rfl⟩; have H2 := kq hst; clear hst; have HG := kq hg; clear hg; by_cases hqn : q < N
      ·
       have hqn' : (q : Int) < N := by omega
       obtain ⟨u, hu⟩ : ∃ u, rs.getD q 0 = u := ⟨_, rfl⟩; obtain ⟨v, hv⟩ : ∃ u, rs.getD g 0 = u := ⟨_, rfl⟩; obtain ⟨-, -, ub1, ub2⟩ := HGO.o.bd HI.o q; obtain ⟨-, -, vb1, vb2⟩ := HGO.o.bd HI.o g; rw [hu] at ub1 ub2; rw [hv] at vb1 vb2; have HUV := kq (And.intro hu hv); clear hu hv; go_upto_region 19 with fail
       have H3 := kq H2.o.drew; refine wp_region_held_drew (S := (fun w' => w'.cell? ⟨DB, q, none⟩ = some (.int .i64 u) ∧ w'.cell? ⟨DB, g, none⟩ = some (.int .i64 v))) (by kernel_rfl) ⟨(by have := (H3.o.get 1 rfl (j := q) (by rw [HRL.o]; exact hqn)).1; rw [HUV.o.1] at this; exact this), (by have := (H3.o.get 1 rfl (j := g) (by rw [HRL.o]; exact hgn)).1; rw [HUV.o.2] at this; exact this)⟩ (fun hHeld => ?_); generalize u1.drew = k2 at *; refine tk 0 ?_; refine tk 1 ?_; refine tk 2 ?_; refine tk 3 ?_; refine tk 4 ?_; refine tk 5 ?_; refine tk 6 ?_; refine tk 7 ?_; refine tk 8 ?_; refine wpAnyH_done (by kernel_rfl) ?_ _; try clear hHeld
       by_cases hvu : v < u
       ·
        have HBN := kq (show q = amax rs (q + 1) from by simp only [amax]; rw [← HG.o, HUV.o.1, HUV.o.2, if_pos hvu]); go_wp2_with fail
        go_roundw
        case rel => exact ⟨q + 1, _, by omega, HBN.o, by omega, by go_num, by first | rfl | go_num, H3.o⟩
        case measure => first | (simp [intOf]; omega) | (simp [intOf]; done)
       have HBN := kq (show g = amax rs (q + 1) from by simp only [amax]; rw [← HG.o, HUV.o.1, HUV.o.2, if_neg hvu]); go_wp2_with fail
       go_roundw
       case rel => exact ⟨q + 1, _, by omega, HBN.o, by omega, by go_num, by first | rfl | go_num, H3.o⟩
       case measure => first | (simp [intOf]; omega) | (simp [intOf]; done)
      have hqn' : ¬ ((q : Int) < N) := by omega
      have HGM := kq (show g = amax rs rs.length from by rw [HRL.o, HG.o, show q = N by omega]); go_upto_region 21 with fail
      obtain ⟨u, hu⟩ : ∃ u, ws.getD g 0 = u := ⟨_, rfl⟩; obtain ⟨ub1, ub2, -, -⟩ := HGO.o.bd HI.o g; rw [hu] at ub1 ub2; obtain ⟨s3, s4⟩ := H2.o.get 0 rfl (j := g) (by rw [HWL.o]; exact hgn); rw [hu] at s3; have HU := kq hu; clear hu; go_upto_region 22 with fail
      have H3 := kq (show St _ _ (.own (.slice (some ⟨DA, 0, none⟩) N N) (ws.set g (u + 1)) :: _) _ _ from (H2.o.store 0 rfl g (u + 1))); first | refine gK H3 ?_ | refine gL H3 ?_ | refine gC H3 ?_
      clear H3; intro w1 H3; clear s3 s4; obtain ⟨s3, s4⟩ := H3.o.get 1 rfl (j := g) (by rw [HRL.o]; exact hgn); go_upto_region 14 with fail
      have H2 := kq (show St _ _ (_ :: .own (.slice (some ⟨DB, 0, none⟩) N N) (rs.set g (-1)) :: _) _ _ from (H3.o.store 1 rfl g (-1))); first | refine gK H2 ?_ | refine gL H2 ?_ | refine gC H2 ?_
      clear H2; intro w1 H2; go_wp2_with fail
      go_roundw
      case rel => exact ⟨k + 1, _, _, _, HGO.o.next HGM.o HU.o, by have := HMI.o; omega, fun _ => by omega, rfl, H2.o.pick [0, 1] rfl (by decide)⟩
      case measure => first | (simp [intOf]; omega) | (simp [intOf]; done)
    have HKK := kq (show k = M0.toNat from by have h1 := HMI.o; by_cases q : 0 < k; have := HKM.o q; omega; omega); go_wp2_with fail
    go_ret
    exact ⟨_, rfl, by rw [hB, show dvW total n l = ws from by unfold dvW; rw [HM0.o, ← HKK.o, ← HGO.o.eq]]; exact H1.o.own 0 rfl, H1.o.bl⟩
end

section
open Go.RowKit
attribute [local go_sem ↓] Go.wp_at_zero Go.wp_at_succ
set_option linter.unusedVariables false
set_option linter.unusedSimpArgs false

theorem bx_in {n m s : Int} {i : Nat} (hn : 1 ≤ n ∧ n ≤ 128) (hm : 1 ≤ m ∧ m ≤ 128) (hi : (i : Int) < m) (hs : 0 ≤ s ∧ s ≤ 14) (h8 : bxN n m i ≤ 8) : DvIn (2 ^ s.toNat) n (bxLens n m i (bxN n m i)) := by
 obtain ⟨b1, b2⟩ := sh_bd hs; have hp := bxN_pos hn hm hi; refine ⟨by omega, b2, hn.1, hn.2, by rw [bxLens_len]; omega, by rw [bxLens_len]; omega, fun d => ?_⟩
 unfold bxLens
 by_cases hd : d < bxN n m i
 ·
  rw [rangeD _ _ hd]; have := bxL_bd hn hm hi hd; omega
 rw [List.getD_eq_getElem?_getD, List.getElem?_eq_none (by simp; omega)]; simp

set_option maxRecDepth 100000 in
set_option maxHeartbeats 6400000 in
theorem rbox_any (n m s : Int) (W : World) : Calls Tryz.prog 37 #[.int .i64 n, .int .i64 m, .int .i64 s] W (TabPost (bxT n m s) (bxCode n m s) W) := by
 by_cases hc : n < 1 ∨ 128 < n ∨ m < 1 ∨ 128 < m
 ·
  have HC := kq (tg_8 (s := s) hc); rw [bx_tg HC.o (by decide), bxT_no (by rw [bx_tg HC.o (by decide)]; decide)]; by_cases k1 : 1 ≤ n ∧ n ≤ 128
  ·
   have k1' : decide (1 ≤ n ∧ n ≤ 128) = true := by simp; omega
   have k2' : decide (1 ≤ m ∧ m ≤ 128) = false := by simp; omega
   go_enter Tryz.func37, Tryz.ntmps37
   go_wp2_with (go_at_call 57; refine (r8side_any _ _).mono ?_; rintro e w' ⟨rfl, rfl⟩)
   all_goals (go_ret2; exact tab_no rfl (Below.refl _ _))
  have k1' : decide (1 ≤ n ∧ n ≤ 128) = false := by simp; omega
  go_enter Tryz.func37, Tryz.ntmps37
  go_wp2_with (go_at_call 57; refine (r8side_any _ _).mono ?_; rintro e w' ⟨rfl, rfl⟩)
  all_goals (go_ret2; exact tab_no rfl (Below.refl _ _))
 have kn' : decide (1 ≤ n ∧ n ≤ 128) = true := by simp; omega
 have km' : decide (1 ≤ m ∧ m ≤ 128) = true := by simp; omega
 by_cases hs : s < 0 ∨ 14 < s
 ·
  have HC := kq (tg_2 hc hs); rw [bx_tg HC.o (by decide), bxT_no (by rw [bx_tg HC.o (by decide)]; decide)]
  rcases hs with hs | hs
  all_goals
   go_enter Tryz.func37, Tryz.ntmps37
   go_wp2_with (go_at_call 57; refine (r8side_any _ _).mono ?_; rintro e w' ⟨rfl, rfl⟩)
   all_goals (go_ret2; exact tab_no rfl (Below.refl _ _))
 have HC := kq (tg_0 hc hs); obtain ⟨n1, n2, m1, m2⟩ : 1 ≤ n ∧ n ≤ 128 ∧ 1 ≤ m ∧ m ≤ 128 := by omega
 obtain ⟨s1, s2⟩ : 0 ≤ s ∧ s ≤ 14 := by omega
 clear hc hs kn' km'; obtain ⟨M, rfl⟩ : ∃ M : Nat, m = M := ⟨m.toNat, by omega⟩; obtain ⟨S, hS⟩ : ∃ S, (2 : Int) ^ s.toNat = S := ⟨_, rfl⟩; obtain ⟨S1, S2⟩ : 1 ≤ S ∧ S ≤ 16384 := by rw [← hS]; exact sh_bd ⟨s1, s2⟩
 have HS := kq hS; have sw : IntKind.i64.wrap S = S := IntWalk.i64_in _ (by omega); obtain ⟨B, hB⟩ : ∃ B, W.heap.size = B := ⟨_, rfl⟩; have HI0 := kq (St.init hB)
 go_enter Tryz.func37, Tryz.ntmps37
 go_wp2_with fail
 refine (r8side_any _ _).mono ?_; rintro e w1 ⟨rfl, hsw⟩; have hsw2 : W = w1 := by first | exact hsw | exact hsw.symm
 clear hsw; subst hsw2; rw [show decide (1 ≤ (n : Int) ∧ (n : Int) ≤ 128) = true by simp; omega]; go_wp2_with fail
 refine (r8side_any _ _).mono ?_; rintro e w1 ⟨rfl, hsw⟩; have hsw2 : W = w1 := by first | exact hsw | exact hsw.symm
 clear hsw; subst hsw2; rw [show decide (1 ≤ ((M : Int) : Int) ∧ ((M : Int) : Int) ≤ 128) = true by simp; omega]; go_wp2_with fail
 have H1 := kq (HI0.o.arrNilE 59 2)
 go_loopw [9, 8] (fun i v wr => ∃ (j : Nat) (ga : Option Addr) (gc : Nat) (tp : List (Int × Ro)) (Rs : List Ro), j ≤ M ∧ tp.length = j ∧ tapD tp = bxTo n M s j ∧ TQ B Rs tp ∧ bxBad n M j = false ∧ i = .int .i64 j ∧ v = .slice ga tp.length gc ∧ St B W [.arr (59) 2 (.slice ga tp.length gc) (tp.length) (tapV tp)] Rs wr) (fun i _ _ => M - (intOf i).toNat)
 case atStart => exact ⟨0, _, _, [], _, by omega, rfl, rfl, TQ.nil _ _, rfl, rfl, rfl, H1.o⟩
 case round =>
  obtain ⟨j, ga, gc, tp, Rs, hj, htl, htd, htq, hbb, rfl, rfl, hst⟩ := hrel; obtain ⟨u1, rfl⟩ : ∃ u1 : World, u1 = wr := ⟨_, rfl⟩; have H32 := kq hst; clear hst; have HTD := kq htd; have HTQ := kq htq; have HBB := kq hbb; have htl2 : tp.length ≤ 1000000 := by omega
  have HTL := kq htl; clear htd htq htl hbb; by_cases hjn : j < M
  ·
   have hjn' : (j : Int) < M := by omega
   obtain ⟨f1, f2, f3, f4, f5, f6, f7⟩ := bx_facts (n := n) (m := (M : Int)) (i := j) ⟨n1, n2⟩ ⟨m1, m2⟩ (by omega); have HIN := kq (fun h8 => bx_in (n := n) (m := (M : Int)) (s := s) (i := j) ⟨n1, n2⟩ ⟨m1, m2⟩ (by omega) ⟨s1, s2⟩ h8); have HSM := kq (bx_sum (n := n) (m := (M : Int)) (i := j) ⟨n1, n2⟩ ⟨m1, m2⟩ (by omega)); have HLT := kq (fun d => bx_lt (n := n) (m := (M : Int)) (i := j) (d := d) ⟨n1, n2⟩ ⟨m1, m2⟩ (by omega)); have HBX := kq (show ∀ d, bxL n (M : Int) j d = mnI (((j : Int) + 1) * n) ((bxK n M j + (d : Int) + 1) * M) - mxI ((j : Int) * n) ((bxK n M j + (d : Int)) * M) from fun d => rfl); have HTP := kq (show bxTap n (M : Int) s j = (bxK n M j, dvW (2 ^ s.toNat) n (bxLens n M j (bxN n M j))) from rfl); have HKD := kq (show bxK n (M : Int) j = (j : Int) * n / M from rfl); have hN := bxN_le (n := n) (m := (M : Int)) (i := j) ⟨n1, n2⟩ ⟨m1, m2⟩ (by omega); have HNine := kq (fun h8 => bx_9 (n := n) (m := (M : Int)) (s := s) HC.o (j := j) (by omega) h8); have hBB := kq (fun h h2 => bxBad_next (n := n) (m := (M : Int)) (j := j) h h2); obtain ⟨K, hK⟩ : ∃ K, bxK n (M : Int) j = K := ⟨_, rfl⟩; obtain ⟨BN, hBN⟩ : ∃ K, bxN n (M : Int) j = K := ⟨_, rfl⟩; obtain ⟨A, hA⟩ : ∃ K, (j : Int) * n = K := ⟨_, rfl⟩; obtain ⟨E, hE⟩ : ∃ K, ((j : Int) + 1) * n = K := ⟨_, rfl⟩; rw [hA] at f1 f2 f3 f6 f7 HBX HKD; rw [hE] at f3 HLT HBX; rw [hK] at f4 f5 f6 f7 HLT HBX HTP HKD; rw [hBN] at HIN HSM HLT HTP hN HNine hBB; rw [hS] at HIN HTP; clear hK hBN; obtain ⟨E1, E2, E3, E4⟩ : 0 ≤ E ∧ E ≤ 16384 ∧ E ≤ A + n ∧ A + n ≤ E := by omega
   clear f3; have tA : Int.tdiv A (M : Int) = K := by rw [Int.tdiv_eq_ediv_of_nonneg f1]; exact HKD.o.symm
   have tA2 : A / (M : Int) = K := HKD.o.symm; have dm1 : ¬ (M = 0) := by omega
   have dm0 : ¬ ((M : Int) = 0) := by omega
   have wA : IntKind.i64.wrap A = A := IntWalk.i64_in _ (by omega); have wE : IntKind.i64.wrap E = E := IntWalk.i64_in _ (by omega); have wK : IntKind.i64.wrap K = K := IntWalk.i64_in _ (by omega); obtain ⟨D1, hD1⟩ := nK u1.heap.size; go_upto_region 11 with fail
   have H1 := kq (H32.o.alloc #[.int .i64 K, .slice none 0 0] 59 hD1); first | refine gK H1 ?_ | refine gL H1 ?_ | refine gC H1 ?_
   clear H1; intro w1 H1; clear hD1; have z1 := H1.o.c2 0 rfl; go_wp2_with fail
   clear z1; have H2 := kq (H1.o.grow (Below.refl _ _) (Own.nil _ _))
   go_loopw [14, 13] (fun i v wr => ∃ (d : Nat) (pa : Option Addr) (pc : Nat) (pl : List Int), d ≤ BN ∧ pl = bxLens n M j d ∧ pl.length = d ∧ i = .int .i64 (K + (d : Int)) ∧ v = .slice pa pl.length pc ∧ St B W [.own (.slice pa pl.length pc) pl, .cells D1 #[.int .i64 K, .slice none 0 0] 59, .arr (59) 2 (.slice ga tp.length gc) (tp.length) (tapV tp)] Rs wr) (fun i _ _ => (K + (BN : Int) - intOf i).toNat)
   case atStart => exact ⟨0, _, _, [], by omega, rfl, rfl, by simp, rfl, H2.o.pick [0, 1, 2] rfl (by decide)⟩
   case round =>
    obtain ⟨d, pa, pc, pl, hd, hpl, hpn, rfl, rfl, hst⟩ := hrel; obtain ⟨u1, rfl⟩ : ∃ u1 : World, u1 = wr := ⟨_, rfl⟩; have H1 := kq hst; clear hst; have HPL := kq hpl; have HPN := kq hpn; have hpn2 : pl.length ≤ 1000000 := by omega
    clear hpl hpn; by_cases hdn : d < BN
    ·
     obtain ⟨J0, hJ0⟩ := nK ((K + (d : Int)) * (M : Int)); have hjE : J0 < E := by rw [← hJ0]; exact (HLT.o d).2 hdn
     have hJ1 : (K + (d : Int) + 1) * (M : Int) = J0 + M := by rw [Int.add_mul, Int.one_mul, hJ0]
     have HJ0 := kq hJ0; have HJ1 := kq hJ1; have j0 : 0 ≤ J0 := by rw [← hJ0]; exact Int.mul_nonneg (by omega) (by omega)
     have wJ : IntKind.i64.wrap J0 = J0 := IntWalk.i64_in _ (by omega); obtain ⟨D2, hD1⟩ := nK u1.heap.size; obtain ⟨m3, hm1⟩ : ∃ zz : Int, (if (J0 + (M : Int)) < E then J0 + (M : Int) else E) = zz := ⟨_, rfl⟩; obtain ⟨m3a, m3b⟩ : 0 ≤ m3 ∧ m3 ≤ 40000 := by rw [← hm1]; split <;> omega
     obtain ⟨m4, hm2⟩ : ∃ zz : Int, (if A < J0 then J0 else A) = zz := ⟨_, rfl⟩; obtain ⟨m4a, m4b⟩ : 0 ≤ m4 ∧ m4 ≤ 40000 := by rw [← hm2]; split <;> omega
     have H2 := kq (H1.o.alloc #[.int .i64 (m3 - m4)] 3 hD1); go_upto_region 14 with (at_builtin; refine append_int rfl _ _ rfl B _ pl (m3 - m4) D2 1 rfl rfl (H2.o.own 1 rfl) (H2.o.cell 0 rfl 0 rfl) (by omega) H2.o.size ?_; intro v1 w1 ho hg hv; have H3 := kq (H2.o.append 1 rfl ho hg hv); clear ho hg hv)
     have HNm1 := kq hm1; clear hm1; have HNm2 := kq hm2; clear hm2; clear H2; obtain ⟨v1a, v1c, hva, _⟩ := (H3.o.own 1 rfl).slc; subst hva; have H2 := kq (show St B W [.own (.slice v1a ((pl ++ [m3 - m4]).length) v1c) (pl ++ [m3 - m4]), .cells D1 #[.int .i64 K, .slice none 0 0] 59, .arr (59) 2 (.slice ga tp.length gc) (tp.length) (tapV tp)] Rs w1 from H3.o.pick [1, 2, 3] rfl (by decide)); clear hD1; go_wp2_with fail
     go_roundw
     case rel => exact ⟨d + 1, _, _, _, by omega, by rw [← bxLens_next, ← HPL.o, HBX.o, HJ1.o, HJ0.o]; have h1 := HNm1.o; have h2 := HNm2.o; unfold mnI mxI; rw [h1, h2], by rw [List.length_append, HPN.o]; rfl, by first | rfl | (congr 1; push_cast; omega), rfl, H2.o.pick [0, 1, 2] rfl (by decide)⟩
     case measure => first | (simp [intOf]; omega) | (simp [intOf]; done)
    obtain ⟨J0, hJ0⟩ := nK ((K + (d : Int)) * (M : Int)); have hjE : ¬ (J0 < E) := by rw [← hJ0]; exact fun h => hdn ((HLT.o d).1 h)
    have j0 : 0 ≤ J0 := by rw [← hJ0]; exact Int.mul_nonneg (by omega) (by omega)
    have j9 : J0 ≤ 4640768 := by rw [← hJ0]; have := Int.mul_le_mul (a := K + (d : Int)) (b := (M : Int)) (c := 36256) (d := 128) (by omega) (by omega) (by omega) (by omega); omega
    have wJ : IntKind.i64.wrap J0 = J0 := IntWalk.i64_in _ (by omega); obtain rfl : d = BN := by omega
    by_cases h8 : 8 < d
    ·
     have h8' : (8 : Int) < pl.length := by rw [HPN.o]; omega
     have HB9 := kq (HNine.o h8); go_wp2_with fail
     rw [HB9.o, bxT_no (by rw [HB9.o]; decide)]
     go_ret2
     exact tab_no rfl (H1.o.bl)
    have h8' : ¬ ((8 : Int) < pl.length) := by rw [HPN.o]; omega
    go_wp2_with fail
    have hin := HIN.o (by omega); have hsm := HSM.o; rw [← HPL.o] at hin hsm; refine (rdivide_any _ n _ _ _ pl _ (H1.o.slc 0 rfl) hin hsm).mono ?_; rintro e w1 ⟨v1, rfl, ho, hb⟩; rw [HPL.o] at ho; have H2 := kq (H1.o.grow hb ho); obtain ⟨v1a, v1c, rfl, _⟩ := ho.slc; clear ho hb hin hsm; obtain ⟨wl, hwl⟩ : ∃ wl, dvW S n (bxLens n M j d) = wl := ⟨_, rfl⟩; rw [hwl] at H2 HTP; skip
    have z1 := H2.o.f2 2 rfl; go_upto_region 19 with fail
    clear z1; have H1 := kq (show St _ _ (_ :: _ :: .cells D1 #[.int .i64 K, .slice v1a wl.length v1c] 59 :: _) _ _ from (H2.o.set 2 rfl 1 (.slice v1a wl.length v1c))); first | refine gK H1 ?_ | refine gL H1 ?_ | refine gC H1 ?_
    clear H1; intro w1 H1; obtain ⟨D1, hD1⟩ := nK w1.heap.size; have H2 := kq (H1.o.alloc #[.int .i64 K, .slice v1a wl.length v1c] 59 hD1); have z1 := H1.o.c2 2 rfl; go_upto_region 8 with (at_builtin; refine append_vals rfl _ _ 31 59 2 32 (.agg #[.int .i64 0, .slice none 0 0]) Tryz.underlying31 info_tap rfl (by decide) (by decide) rfl B _ _ _ D1 1 1 [.int .i64 K, .slice v1a wl.length v1c] rfl rfl rfl (H2.o.arrOfT 4 rfl) (lit_news H2.o 0 [.int .i64 K, .slice v1a wl.length v1c] rfl) (by intro u hu; simp at hu; rcases hu with rfl | rfl <;> rfl) (by omega) H2.o.size ?_; intro v2 w1 ho hg hv; have H1 := kq (H2.o.appendE 4 rfl ho hg hv); clear ho hg hv)
    clear z1; clear H2; obtain ⟨g1, c64, hva⟩ := arr_posT (H1.o.arrOfT 4 rfl) (by omega); subst hva; clear hD1; go_wp2_with fail
    have H2 := H1.o.pick (l' := [.own (.slice v1a wl.length v1c) wl, .arr (59) 2 (.slice (some ⟨g1, 0, none⟩) (tp.length + 1) c64) (tp.length + 1) (tapV tp ++ [.int .i64 K, .slice v1a wl.length v1c])]) [1, 4] rfl (by decide); have hNW := H2.lay 0 rfl; have hLY := H2.freeze 0 rfl; simp only [List.eraseIdx] at hLY; rw [show tapV tp ++ [.int .i64 K, .slice v1a wl.length v1c] = tapV (tp ++ [(K, ⟨v1a, wl.length, v1c, wl⟩)]) from by rw [tapV_app]; rfl] at hLY
    go_roundw
    case rel => exact ⟨j + 1, _, _, tp ++ [(K, _)], _, by omega, by rw [List.length_append, HTL.o]; rfl, by rw [tapD_app, HTD.o]; unfold bxTo; rw [range_snoc, HTP.o]; rfl, HTQ.o.snoc hNW, hBB.o HBB.o (by omega), by go_num, by rw [List.length_append]; rfl, by rw [List.length_append]; exact hLY⟩
    case measure => first | (simp [intOf]; omega) | (simp [intOf]; done)
  have hjn' : ¬ ((j : Int) < M) := by omega
  have HJM := kq (show j = M by omega); have HB0 := kq (bx_0 (s := s) HC.o (show bxBad n (M : Int) (M : Int).toNat = false from by rw [show (M : Int).toNat = j by omega]; exact HBB.o)); go_wp2_with fail
  rw [HB0.o]
  go_ret2
  exact ⟨_, rfl, by rw [hB, show bxT n M s = tapD tp from by unfold bxT; rw [if_pos HB0.o, HTD.o, HJM.o]; rfl]; exact H32.o.outT 0 rfl HTQ.o, H32.o.bl⟩
end

section
set_option linter.unusedVariables false

theorem tvTo_ok {ts : Tbl} (h : ∀ i, i < ts.length → tvOne (ts.getD i (0, [])) = 0) : ∀ j, j ≤ ts.length → tvTo ts j = 0 := by
 intro j hj
 induction j with
 | zero => rfl
 | succ j ih => exact tvTo_next (ih (by omega)) (h j (by omega))
theorem wAll_of {l : List Int} (h : ∀ i, i < l.length → -32767 ≤ l.getD i 0 ∧ l.getD i 0 ≤ 32767) : wAll l = true := by
 unfold wAll; rw [List.all_eq_true]; intro x hx
 obtain ⟨i, hi, rfl⟩ := List.getElem_of_mem hx; have := h i hi; rw [List.getD_eq_getElem?_getD, List.getElem?_eq_getElem hi] at this
 unfold wOk; simpa using this
theorem ln_one {n m s : Int} {i : Nat} (hn : 1 ≤ n ∧ n ≤ 128) (hm : 1 ≤ m ∧ m ≤ 128) (hs : 0 ≤ s ∧ s ≤ 14) (hi : (i : Int) < m) : tvOne (lnTap n m s i) = 0 := by
 obtain ⟨f1, f2, f3, f4, f5, f6, f7, f8⟩ := ln_facts hn hm hi; obtain ⟨w1, w2, w3, w4⟩ := lnW_bd (n := n) (i := i) hm hs; obtain ⟨b1, b2⟩ := sh_bd hs
 have hK : -128 ≤ lnK n m i ∧ lnK n m i ≤ 256 := by
  have hP : lnP n m i = (2 * (i : Int) + 1) * n - m := rfl
  unfold lnK
  constructor
  ·
   exact (Int.le_ediv_iff_mul_le (by omega)).2 (by omega)
  have h3 : (2 * (i : Int) + 1) * n ≤ (2 * m) * 128 := Int.mul_le_mul (by omega) hn.2 (by omega) (by omega); have : lnP n m i / (2 * m) < 257 := Int.ediv_lt_of_lt_mul (by omega) (by omega)
  omega
 unfold tvOne lnTap
 rw [if_neg (by simp), if_neg, if_neg]
 ·
  unfold tFirst; simp; omega
 rw [wAll_of]
 ·
  simp
 intro k hk
 rcases k with _ | _ | k
 ·
  simp; omega
 ·
  simp; omega
 exfalso; simp only [List.length_cons, List.length_nil] at hk; omega
theorem ln_valid {n m s : Int} (hn : 1 ≤ n ∧ n ≤ 128) (hm : 1 ≤ m ∧ m ≤ 128) (hs : 0 ≤ s ∧ s ≤ 14) : tgCode n m s = 0 ∧ (lnT n m s).length = m.toNat ∧ tvCode (lnT n m s) n = 0 ∧ ∀ i, i < m.toNat → (lnT n m s).getD i (0, []) = lnTap n m s i := by
 have h0 : tgCode n m s = 0 := by unfold tgCode; rw [if_neg (by omega), if_neg (by omega)]
 have hl : (lnT n m s).length = m.toNat := by unfold lnT lnTo; rw [if_pos h0]; simp
 have hg : ∀ i, i < m.toNat → (lnT n m s).getD i (0, []) = lnTap n m s i := fun i hi => by unfold lnT lnTo; rw [if_pos h0, rangeD _ _ hi]
 refine ⟨h0, hl, ?_, hg⟩
 unfold tvCode
 rw [if_neg (by rw [hl]; omega)]; exact tvTo_ok (fun i hi => by rw [hl] at hi; rw [hg i hi]; exact ln_one hn hm hs (by omega)) _ (Nat.le_refl _)

theorem bx_end {n m : Int} {i : Nat} (hn : 1 ≤ n ∧ n ≤ 128) (hm : 1 ≤ m ∧ m ≤ 128) (hi : (i : Int) < m) : 0 ≤ bxK n m i ∧ bxK n m i + (bxN n m i : Int) ≤ n := by
 obtain ⟨f1, f2, f3, f4, f5, f6, f7⟩ := bx_facts hn hm hi; have hp := bxN_pos hn hm hi; have h1 : ((i : Int) + 1) * n ≤ m * n := Int.mul_le_mul_of_nonneg_right (by omega) (by omega)
 have h2 : bxE n m i < n + 1 := by
  unfold bxE
  have h4 : (n + 1) * m = m * n + m := by rw [Int.add_mul, Int.one_mul, Int.mul_comm]
  exact Int.ediv_lt_of_lt_mul (by omega) (by rw [h4]; omega)
 refine ⟨f4, ?_⟩
 unfold bxN at hp ⊢; omega
theorem sumN_scale {S n : Int} (hn : 1 ≤ n) (f : Nat → Int) (k : Nat) : sumN (fun i => S * f i / n) k * n ≤ S * sumN f k := by
 induction k with
 | zero => simp [sumN]
 | succ k ih =>
  simp only [sumN]; have h := Int.ediv_mul_le (S * f k) (b := n) (by omega); rw [Int.add_mul, Int.mul_add]; omega
theorem dvW_sum {S n : Int} {l : List Int} (hi : DvIn S n l) (hs : sumN (fun i => l.getD i 0) l.length = n) : sumN (fun j => (dvW S n l).getD j 0) l.length = S := by
 have hM : 0 ≤ dvM S n l l.length := by
  have h := sumN_scale (S := S) hi.n0 (fun i => l.getD i 0) l.length; rw [hs] at h; have h2 := Int.le_of_mul_le_mul_right h (show 0 < n by have := hi.n0; omega)
  unfold dvM; omega
 have h := dvGo_sum (dvF S n l, dvR S n l) (by rw [dvF_len, dvR_len]) (by rw [dvF_len]; have := hi.l0; omega) (dvM S n l l.length).toNat; simp only [dvF_len] at h
 unfold dvW
 rw [h, sumN_eq (g := fun i => S * l.getD i 0 / n) (fun i _ => dvF_get _ _ _ _)]
 unfold dvM at hM ⊢; omega
theorem sumN_one_le {f : Nat → Int} {k : Nat} (h : ∀ i, 0 ≤ f i) : ∀ i, i < k → f i ≤ sumN f k := by
 induction k with
 | zero => intro i hi; omega
 | succ k ih =>
  intro i hi; have h0 := h k; have h1 : 0 ≤ sumN f k := sumN_nonneg fun i _ => h i
  simp only [sumN]; by_cases e : i = k
  ·
   subst e; omega
  have := ih i (by omega); omega
theorem dvW_nonneg {S n : Int} {l : List Int} (hi : DvIn S n l) (i : Nat) : 0 ≤ (dvW S n l).getD i 0 := by
 have h : DvGo S n l (dvGo (dvF S n l, dvR S n l) (dvM S n l l.length).toNat).1 (dvGo (dvF S n l, dvR S n l) (dvM S n l l.length).toNat).2 (dvM S n l l.length).toNat := ⟨rfl⟩; exact (h.bd hi i).1
theorem bx_one {n m s : Int} {i : Nat} (hn : 1 ≤ n ∧ n ≤ 128) (hm : 1 ≤ m ∧ m ≤ 128) (hs : 0 ≤ s ∧ s ≤ 14) (hi : (i : Int) < m) (h8 : bxN n m i ≤ 8) (hin : DvIn (2 ^ s.toNat) n (bxLens n m i (bxN n m i))) :
  tvOne (bxTap n m s i) = 0 ∧ (bxTap n m s i).2.length = bxN n m i ∧ sumN (fun j => (bxTap n m s i).2.getD j 0) (bxTap n m s i).2.length = 2 ^ s.toNat ∧ ∀ j, 0 ≤ (bxTap n m s i).2.getD j 0 ∧ (bxTap n m s i).2.getD j 0 ≤ 16384 := by
 have hlen : (bxTap n m s i).2.length = bxN n m i := by show (dvW _ _ _).length = _; rw [dvW_len, bxLens_len]
 have hsum : sumN (fun j => (bxTap n m s i).2.getD j 0) (bxTap n m s i).2.length = 2 ^ s.toNat := by
  have := dvW_sum hin (bx_sum hn hm hi); rw [hlen]; rw [bxLens_len] at this; exact this
 obtain ⟨b1, b2⟩ := sh_bd hs
 have hw : ∀ j, 0 ≤ (bxTap n m s i).2.getD j 0 ∧ (bxTap n m s i).2.getD j 0 ≤ 16384 := by
  intro j; refine ⟨dvW_nonneg hin j, ?_⟩; by_cases hj : j < (bxTap n m s i).2.length
  ·
   have := sumN_one_le (f := fun j => (bxTap n m s i).2.getD j 0) (k := (bxTap n m s i).2.length) (fun j => dvW_nonneg hin j) j hj; have h9 : (bxTap n m s i).2.getD j 0 ≤ 2 ^ s.toNat := by rw [← hsum]; exact this
   omega
  rw [List.getD_eq_getElem?_getD, List.getElem?_eq_none (by omega)]; simp
 have he := bx_end hn hm hi; have hp := bxN_pos hn hm hi; refine ⟨?_, hlen, hsum, hw⟩; have hk : (bxTap n m s i).1 = bxK n m i := rfl
 unfold tvOne
 rw [if_neg (by rw [hlen]; omega), if_neg (by rw [wAll_of (fun j hj => by have := hw j; omega)]; simp), if_neg]; rw [hk]; unfold tFirst; simp; omega
theorem bxBad_all {n m : Int} {M : Nat} (h : bxBad n m M = false) : ∀ j, j < M → bxN n m j ≤ 8 := by
 intro j hj; by_cases q : bxN n m j ≤ 8
 ·
  exact q
 rw [bxBad_at (j := j) (by omega) M hj] at h; cases h
end
end Go.Proofs.YteejjnhlfgjlaaaGreat
