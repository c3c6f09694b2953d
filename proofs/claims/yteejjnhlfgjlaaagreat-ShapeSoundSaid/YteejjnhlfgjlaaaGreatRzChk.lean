/-
 Contracts: the errors of tables for resizing, in the program and in the reference.
-/
import Derived.Test.YteejjnhlfgjlaaaGreatRzPlain
import Derived.Test.YteejjnhlfgjlaaaGreatKJ
import Derived.Test.YteejjnhlfgjlaaaGreatKN
namespace Go.Proofs.YteejjnhlfgjlaaaGreat
open Go.RowKit
attribute [local go_sem ↓] Go.wp_at_zero Go.wp_at_succ
set_option linter.unusedVariables false
set_option linter.unusedSimpArgs false

theorem acLo_next {mx s : Int} {x : Tbl} {j : Nat} {p : Int × List Int} {v L : Int} (hp : x.getD j (0, []) = p) (hv : rzLo mx s p = v) (hL : acLo mx s x j = L) (hj : j ≠ 0) : acLo mx s x (j + 1) = if v < L then v else L := by
 simp only [acLo]; rw [if_neg hj, hp, hv, hL]; split <;> split <;> omega
theorem acHi_next {mx s : Int} {x : Tbl} {j : Nat} {p : Int × List Int} {v L : Int} (hp : x.getD j (0, []) = p) (hv : rzHi mx s p = v) (hL : acHi mx s x j = L) (hj : j ≠ 0) : acHi mx s x (j + 1) = if L < v then v else L := by
 simp only [acHi]; rw [if_neg hj, hp, hv, hL]; split <;> split <;> omega
theorem acLo_first {mx s : Int} {x : Tbl} {p : Int × List Int} {v : Int} (hp : x.getD 0 (0, []) = p) (hv : rzLo mx s p = v) : acLo mx s x (0 + 1) = v := by
 simp only [acLo]; rw [if_pos trivial, hp, hv]
theorem acHi_first {mx s : Int} {x : Tbl} {p : Int × List Int} {v : Int} (hp : x.getD 0 (0, []) = p) (hv : rzHi mx s p = v) : acHi mx s x (0 + 1) = v := by
 simp only [acHi]; rw [if_pos trivial, hp, hv]
theorem tv_pos {ts : Tbl} {n : Int} (h : tvCode ts n = 0) : 1 ≤ ts.length ∧ ts.length ≤ 128 ∧ 1 ≤ n ∧ n ≤ 128 := by
 unfold tvCode at h; split at h <;> omega
theorem len_mul {a b : Nat} (ha : a ≤ 128) (hb : b ≤ 128) : 0 ≤ (a : Int) * b ∧ (a : Int) * b ≤ 16384 := by
 have h1 : (a : Int) * b ≤ 128 * 128 := Int.mul_le_mul (by omega) (by omega) (by omega) (by omega); have h2 : 0 ≤ (a : Int) * b := Int.mul_nonneg (by omega) (by omega)
 omega

set_option maxRecDepth 100000 in
set_option maxHeartbeats 6400000 in
theorem rzacc_any (xa : Option Addr) (xm xc : Nat) (xs : Tbl) (ya : Option Addr) (ym yc : Nat) (ys : Tbl) (mx s : Int) (W : World) (hx : Tps W xa xm xc xs) (hy : Tps W ya ym yc ys) (x0 : 1 ≤ xm) (y0 : 1 ≤ ym) :
  Calls Tryz.prog 63 #[.slice xa xm xc, .slice ya ym yc, .int .i64 mx, .int .i64 s] W fun e w' => e = .returned (.int .i64 (acCode mx s xs ys)) ∧ Below W.heap.size W w' := by
 have HLX := kq hx.len; have HLY := kq hy.len; have xmx : (xm : Int) ≤ 9223372036854775807 := by have := hx.nc; have := hx.cap; omega
 have ymx : (ym : Int) ≤ 9223372036854775807 := by have := hy.nc; have := hy.cap; omega
 obtain ⟨xb, xo, hxa⟩ := hx.at (by omega); subst hxa; obtain ⟨yb, yo, hya⟩ := hy.at (by omega); subst hya; have HX := kq hx; have HY := kq hy; clear hx hy; obtain ⟨B, hB⟩ : ∃ B, W.heap.size = B := ⟨_, rfl⟩; have HI0 := kq (St.init hB)
 go_enter Tryz.func63, Tryz.ntmps63
 go_wp2_with fail
 go_loopw [23, 9, 10] (fun i lo hi wr => ∃ j : Nat, j ≤ xm ∧ acOk 0 mx xs j = true ∧ i = .int .i64 j ∧ lo = .int .i64 (acLo mx s xs j) ∧ hi = .int .i64 (acHi mx s xs j) ∧ St B W [] [] wr) (fun i _ _ _ => xm - (intOf i).toNat)
 case atStart => exact ⟨0, by omega, rfl, rfl, rfl, rfl, HI0.o⟩
 case round =>
  obtain ⟨j, hj, hok, rfl, rfl, rfl, hst⟩ := hrel; obtain ⟨u1, rfl⟩ : ∃ u1 : World, u1 = wr := ⟨_, rfl⟩; have H2 := kq hst; clear hst; have HOK := kq hok; clear hok; obtain ⟨LA, hLA⟩ := nK (acLo mx s xs j); obtain ⟨HA, hHA⟩ := nK (acHi mx s xs j); rw [hLA, hHA]; have HLA := kq hLA; have HHA := kq hHA; clear hLA hHA; by_cases hjn : j < xm
  ·
   have hjn' : (j : Int) < xm := by omega
   obtain ⟨xta, xtn, xtc, e1, e2, e3⟩ := HX.o.row (i := j) hjn; have HE1x := kq e1; have HE2x := kq e2; obtain ⟨p, hp⟩ : ∃ p, xs.getD j (0, []) = p := ⟨_, rfl⟩; obtain ⟨xk, ws⟩ := p; rw [hp] at e3 HE1x; simp only at e3 HE1x; have HSLx := kq e3; have HWLx := kq e3.len; have xtnm : (xtn : Int) ≤ 9223372036854775807 := by have := e3.nc; have := e3.cap; omega
   have HPx := kq hp; clear e1 e2 e3 hp; have f1x := H2.o.oldCell HE1x.o; have f2x := H2.o.oldCell HE2x.o; obtain ⟨D3, hD3⟩ := nK u1.heap.size; go_upto_region 5 with fail
   have H4 := kq (H2.o.alloc #[.int .i64 xk, .slice xta xtn xtc] 59 hD3); first | refine gK H4 ?_ | refine gL H4 ?_ | refine gC H4 ?_
   clear H4; intro w5 H4; clear hD3; have z6 := H4.o.c2 0 rfl; go_wp2_with fail
   clear z6; refine (fbounds_any _ _ _ _ _ _ _ (H4.o.old HSLx.o)).mono ?_; rintro e w8 ⟨rfl, hb⟩; have H9 := kq (H4.o.call hb); clear hb; obtain ⟨x1, HNx1⟩ := nQ (bdLo ws 0 mx); rw [HNx1.o]; obtain ⟨x2, HNx2⟩ := nQ (bdHi ws 0 mx); rw [HNx2.o]; obtain ⟨b1, HNb1⟩ := nQ (bdOk ws 0 mx); rw [HNb1.o]; cases b1; rotate_left
   ·
    go_wp2_with fail
    refine (fspan_any _ _ _ _).mono ?_; rintro e w1 ⟨rfl, hsw⟩; have hsw2 : w8 = w1 := by first | exact hsw | exact hsw.symm
    clear hsw; subst hsw2; obtain ⟨s1, HNs1⟩ := nQ (shV x1 s); rw [HNs1.o]; obtain ⟨s2, HNs2⟩ := nQ (shV x2 s); rw [HNs2.o]; by_cases hN : j = 0
    ·
     subst hN; go_wp2_with fail
     go_roundw
     case rel => exact ⟨0 + 1, by omega, acOk_next HOK.o (by rw [HPx.o]; exact HNb1.o), by go_num, by rw [acLo_first HPx.o (show rzLo mx s (xk, ws) = s1 from by show shV (bLo ws 0 mx ws.length) s = s1; rw [← (bdOk_yes HNb1.o).1, HNx1.o, HNs1.o])], by rw [acHi_first HPx.o (show rzHi mx s (xk, ws) = s2 from by show shV (bHi ws 0 mx ws.length) s = s2; rw [← (bdOk_yes HNb1.o).2, HNx2.o, HNs2.o])], H9.o.pick [] rfl (by decide)⟩
     case measure => first | (simp [intOf]; omega) | (simp [intOf]; done)
    have hN0 : ((j : Int) == 0) = false := by simp; omega
    have HJ0 := kq hN; clear hN; obtain ⟨m16, hm16⟩ : ∃ zz : Int, (if s1 < LA then s1 else LA) = zz := ⟨_, rfl⟩; obtain ⟨m1, hm1⟩ : ∃ zz : Int, (if HA < s2 then s2 else HA) = zz := ⟨_, rfl⟩; go_wp2_with fail
    have HNm16 := kq hm16; clear hm16; have HNm1 := kq hm1; clear hm1
    go_roundw
    case rel => exact ⟨j + 1, by omega, acOk_next HOK.o (by rw [HPx.o]; exact HNb1.o), by go_num, by rw [acLo_next HPx.o (show rzLo mx s (xk, ws) = s1 from by show shV (bLo ws 0 mx ws.length) s = s1; rw [← (bdOk_yes HNb1.o).1, HNx1.o, HNs1.o]) HLA.o HJ0.o, HNm16.o], by rw [acHi_next HPx.o (show rzHi mx s (xk, ws) = s2 from by show shV (bHi ws 0 mx ws.length) s = s2; rw [← (bdOk_yes HNb1.o).2, HNx2.o, HNs2.o]) HHA.o HJ0.o, HNm1.o], H9.o.pick [] rfl (by decide)⟩
    case measure => first | (simp [intOf]; omega) | (simp [intOf]; done)
   go_wp2_with fail
   go_ret
   exact ⟨ret_i (by unfold acCode; rw [if_pos (acOk_fail (by rw [← HLX.o]; exact hjn) (by rw [HPx.o]; exact HNb1.o))]), H9.o.bl⟩
  have hjn' : ¬ ((j : Int) < xm) := by omega
  have hxe : xs.length = j := by have := HLX.o; omega
  have HAO := kq (show acOk 0 mx xs xs.length = true from by rw [hxe]; exact HOK.o); have HLE := kq (show acLo mx s xs xs.length = LA from by rw [hxe]; exact HLA.o); have HHE := kq (show acHi mx s xs xs.length = HA from by rw [hxe]; exact HHA.o); clear hxe; go_wp2_with fail
  go_loopw [58] (fun i wr => ∃ q : Nat, q ≤ ym ∧ acOk LA HA ys q = true ∧ i = .int .i64 q ∧ St B W [] [] wr) (fun i _ => ym - (intOf i).toNat)
  case atStart => exact ⟨0, by omega, rfl, rfl, H2.o.pick [] rfl (by decide)⟩
  case round =>
   obtain ⟨q, hq, hoq, rfl, hst⟩ := hrel; obtain ⟨u2, rfl⟩ : ∃ u2 : World, u2 = wr := ⟨_, rfl⟩; have H1 := kq hst; clear hst; have HOQ := kq hoq; clear hoq; by_cases hqn : q < ym
   ·
    have hqn' : (q : Int) < ym := by omega
    obtain ⟨yta, ytn, ytc, e1, e2, e3⟩ := HY.o.row (i := q) hqn; have HE1y := kq e1; have HE2y := kq e2; obtain ⟨p, hp⟩ : ∃ p, ys.getD q (0, []) = p := ⟨_, rfl⟩; obtain ⟨yk, us⟩ := p; rw [hp] at e3 HE1y; simp only at e3 HE1y; have HSLy := kq e3; have HWLy := kq e3.len; have ytnm : (ytn : Int) ≤ 9223372036854775807 := by have := e3.nc; have := e3.cap; omega
    have HPy := kq hp; clear e1 e2 e3 hp; have f1y := H1.o.oldCell HE1y.o; have f2y := H1.o.oldCell HE2y.o; obtain ⟨D1, hD1⟩ := nK u2.heap.size; go_upto_region 16 with fail
    have H3 := kq (H1.o.alloc #[.int .i64 yk, .slice yta ytn ytc] 59 hD1); first | refine gK H3 ?_ | refine gL H3 ?_ | refine gC H3 ?_
    clear H3; intro w1 H3; clear hD1; have z1 := H3.o.c2 0 rfl; go_wp2_with fail
    clear z1; refine (fbounds_any _ _ _ _ _ _ _ (H3.o.old HSLy.o)).mono ?_; rintro e w1 ⟨rfl, hb⟩; have H5 := kq (H3.o.call hb); clear hb; obtain ⟨x1, HNx1⟩ := nQ (bdLo us LA HA); rw [HNx1.o]; obtain ⟨x1, HNx1⟩ := nQ (bdHi us LA HA); rw [HNx1.o]; obtain ⟨b1, HNb1⟩ := nQ (bdOk us LA HA); rw [HNb1.o]; cases b1; rotate_left
    ·
     go_wp2_with fail
     go_roundw
     case rel => exact ⟨q + 1, by omega, acOk_next HOQ.o (by rw [HPy.o]; exact HNb1.o), by go_num, H5.o.pick [] rfl (by decide)⟩
     case measure => first | (simp [intOf]; omega) | (simp [intOf]; done)
    go_wp2_with fail
    go_ret
    exact ⟨ret_i (by unfold acCode; rw [if_neg (by rw [HAO.o]; simp), HLE.o, HHE.o, if_pos (acOk_fail (by rw [← HLY.o]; exact hqn) (by rw [HPy.o]; exact HNb1.o))]), H5.o.bl⟩
   have hqn' : ¬ ((q : Int) < ym) := by omega
   have HBO := kq (show acOk LA HA ys ys.length = true from by rw [← HLY.o, show ym = q by omega]; exact HOQ.o); go_wp2_with fail
   go_ret
   exact ⟨ret_i (by unfold acCode; rw [if_neg (by rw [HAO.o]; simp), HLE.o, HHE.o, if_neg (by rw [HBO.o]; simp)]), H1.o.bl⟩

theorem mul_no {a b : Nat} (h : mOk (a : Int) (b : Int) 4096 = false) : 4096 < (a : Int) * (b : Int) := by
 rcases Int.lt_or_le 4096 ((a : Int) * (b : Int)) with hc | hc
 ·
  exact hc
 exact absurd (show (0 : Int) ≤ a ∧ (0 : Int) ≤ b ∧ (0 : Int) ≤ 4096 ∧ (a : Int) * b ≤ 4096 from ⟨by omega, by omega, by omega, hc⟩) (of_decide_eq_false h)
theorem mul_yes {a b : Nat} (h : mOk (a : Int) (b : Int) 4096 = true) : ¬ 4096 < (a : Int) * (b : Int) := by
 have h' := (of_decide_eq_true h).2.2.2
 omega

set_option maxRecDepth 100000 in
set_option maxHeartbeats 6400000 in
theorem rzcheck_any (w h mx : Int) (xa : Option Addr) (xm xc : Nat) (xs : Tbl) (ya : Option Addr) (ym yc : Nat) (ys : Tbl) (s s2 out : Int) (W : World) (hx : Tps W xa xm xc xs) (hy : Tps W ya ym yc ys) :
  Calls Tryz.prog 41 #[.agg #[.int .i64 w, .int .i64 h, .int .i64 mx], .slice xa xm xc, .slice ya ym yc, .int .i64 s, .int .i64 s2, .int .i64 out] W fun e w' => e = .returned (.int .i64 (rzCode w h mx xs ys s s2 out)) ∧ Below W.heap.size W w' := by
 have HLX := kq hx.len; have HLY := kq hy.len; have xmx : (xm : Int) ≤ 9223372036854775807 := by have := hx.nc; have := hx.cap; omega
 have ymx : (ym : Int) ≤ 9223372036854775807 := by have := hy.nc; have := hy.cap; omega
 have HX := kq hx; have HY := kq hy; clear hx hy; obtain ⟨B, hB⟩ : ∃ B, W.heap.size = B := ⟨_, rfl⟩; have HI0 := kq (St.init hB)
 go_enter Tryz.func41, Tryz.ntmps41
 go_upto_region 1 with fail
 have H1 := kq (HI0.o.alloc #[.int .i64 w, .int .i64 h, .int .i64 mx] 37 hB); first | refine gK H1 ?_ | refine gL H1 ?_ | refine gC H1 ?_
 clear H1; intro w3 H1; have z32 := H1.o.c3 0 rfl; go_wp2_with fail
 clear z32; refine (tvalid_any _ _ _ _ _ _ (H1.o.oldTps HX.o)).mono ?_; rintro e w3 ⟨rfl, hb⟩; have H2 := kq (H1.o.call hb); clear hb; obtain ⟨c1, HNc1⟩ := nQ (tvCode xs w); rw [HNc1.o]
 rcases eqZ c1 0 with ⟨c1a, c1b, c1c, c1d, c1h⟩ | ⟨c1a, c1b, c1h⟩
 ·
  have z1 := H2.o.c3 0 rfl; go_wp2_with fail
  clear z1; refine (tvalid_any _ _ _ _ _ _ (H2.o.oldTps HY.o)).mono ?_; rintro e w3 ⟨rfl, hb⟩; have H1 := kq (H2.o.call hb); clear hb; obtain ⟨c2, HNc2⟩ := nQ (tvCode ys h); rw [HNc2.o]
  rcases eqZ c2 0 with ⟨c2a, c2b, c2c, c2d, c2h⟩ | ⟨c2a, c2b, c2h⟩
  ·
   go_upto_region 7 with fail
   obtain ⟨xl1, xl2, w1, w2⟩ := tv_pos (ts := xs) (n := w) (by rw [HNc1.o]; have := c1h.o; have := c2h.o; omega); obtain ⟨yl1, yl2, h1, h2⟩ := tv_pos (ts := ys) (n := h) (by rw [HNc2.o]; have := c1h.o; have := c2h.o; omega); have hlx := HLX.o; have hly := HLY.o; have xm1 : 1 ≤ xm ∧ xm ≤ 128 := by omega
   have ym1 : 1 ≤ ym ∧ ym ≤ 128 := by omega
   clear hlx hly; go_wp2_with fail
   refine (mulAny _ _ _ _ (by omega)).mono ?_; rintro e w4 ⟨rfl, hsw⟩; have hsw2 : w3 = w4 := by first | exact hsw | exact hsw.symm
   clear hsw; subst hsw2; obtain ⟨v1, HNv1⟩ := nQ (mVal (xm : Int) (ym : Int) 4096); rw [HNv1.o]; obtain ⟨b1, HNb1⟩ := nQ (mOk (xm : Int) (ym : Int) 4096); rw [HNb1.o]; cases b1; rotate_left
   ·
    by_cases c4 : (s : Int) < 0
    ·
     go_wp2_with fail
     go_ret
     exact ⟨ret_i (by unfold rzCode; rw [HNc1.o, if_neg (by have := c1h.o; have := c2h.o; omega), HNc2.o, if_neg (by have := c1h.o; have := c2h.o; omega), if_neg (by rw [← HLX.o, ← HLY.o]; exact mul_yes HNb1.o), if_pos (by simp only [shOk, decide_eq_true_eq]; omega)]), H1.o.bl⟩
    by_cases c4 : (24 : Int) < s
    ·
     go_wp2_with fail
     go_ret
     exact ⟨ret_i (by unfold rzCode; rw [HNc1.o, if_neg (by have := c1h.o; have := c2h.o; omega), HNc2.o, if_neg (by have := c1h.o; have := c2h.o; omega), if_neg (by rw [← HLX.o, ← HLY.o]; exact mul_yes HNb1.o), if_pos (by simp only [shOk, decide_eq_true_eq]; omega)]), H1.o.bl⟩
    by_cases c4 : (s2 : Int) < 0
    ·
     go_wp2_with fail
     go_ret
     exact ⟨ret_i (by unfold rzCode; rw [HNc1.o, if_neg (by have := c1h.o; have := c2h.o; omega), HNc2.o, if_neg (by have := c1h.o; have := c2h.o; omega), if_neg (by rw [← HLX.o, ← HLY.o]; exact mul_yes HNb1.o), if_pos (by simp only [shOk, decide_eq_true_eq]; omega)]), H1.o.bl⟩
    by_cases c4 : (24 : Int) < s2
    ·
     go_wp2_with fail
     go_ret
     exact ⟨ret_i (by unfold rzCode; rw [HNc1.o, if_neg (by have := c1h.o; have := c2h.o; omega), HNc2.o, if_neg (by have := c1h.o; have := c2h.o; omega), if_neg (by rw [← HLX.o, ← HLY.o]; exact mul_yes HNb1.o), if_pos (by simp only [shOk, decide_eq_true_eq]; omega)]), H1.o.bl⟩
    by_cases c4 : (mx : Int) < 1
    ·
     have z1 := H1.o.c3 0 rfl; go_wp2_with fail
     clear z1
     go_ret
     exact ⟨ret_i (by unfold rzCode; rw [HNc1.o, if_neg (by have := c1h.o; have := c2h.o; omega), HNc2.o, if_neg (by have := c1h.o; have := c2h.o; omega), if_neg (by rw [← HLX.o, ← HLY.o]; exact mul_yes HNb1.o), if_neg (by simp only [shOk, decide_eq_true_eq]; omega), if_pos (by simp only [valOk, decide_eq_true_eq]; omega)]), H1.o.bl⟩
    by_cases c4 : (4294967296 : Int) < mx
    ·
     have z1 := H1.o.c3 0 rfl; go_wp2_with fail
     clear z1
     go_ret
     exact ⟨ret_i (by unfold rzCode; rw [HNc1.o, if_neg (by have := c1h.o; have := c2h.o; omega), HNc2.o, if_neg (by have := c1h.o; have := c2h.o; omega), if_neg (by rw [← HLX.o, ← HLY.o]; exact mul_yes HNb1.o), if_neg (by simp only [shOk, decide_eq_true_eq]; omega), if_pos (by simp only [valOk, decide_eq_true_eq]; omega)]), H1.o.bl⟩
    by_cases c4 : (out : Int) < 1
    ·
     have z1 := H1.o.c3 0 rfl; go_wp2_with fail
     clear z1
     go_ret
     exact ⟨ret_i (by unfold rzCode; rw [HNc1.o, if_neg (by have := c1h.o; have := c2h.o; omega), HNc2.o, if_neg (by have := c1h.o; have := c2h.o; omega), if_neg (by rw [← HLX.o, ← HLY.o]; exact mul_yes HNb1.o), if_neg (by simp only [shOk, decide_eq_true_eq]; omega), if_pos (by simp only [valOk, decide_eq_true_eq]; omega)]), H1.o.bl⟩
    by_cases c4 : (4294967296 : Int) < out
    ·
     have z1 := H1.o.c3 0 rfl; go_wp2_with fail
     clear z1
     go_ret
     exact ⟨ret_i (by unfold rzCode; rw [HNc1.o, if_neg (by have := c1h.o; have := c2h.o; omega), HNc2.o, if_neg (by have := c1h.o; have := c2h.o; omega), if_neg (by rw [← HLX.o, ← HLY.o]; exact mul_yes HNb1.o), if_neg (by simp only [shOk, decide_eq_true_eq]; omega), if_pos (by simp only [valOk, decide_eq_true_eq]; omega)]), H1.o.bl⟩
    have z1 := H1.o.c3 0 rfl; go_wp2_with fail
    clear z1; refine (rzacc_any _ _ _ _ _ _ _ _ _ _ _ (H1.o.oldTps HX.o) (H1.o.oldTps HY.o) (by omega) (by omega)).mono ?_; rintro e w3 ⟨rfl, hb⟩; have H3 := kq (H1.o.call hb); clear hb; obtain ⟨c4, HNc3⟩ := nQ (acCode mx s xs ys); rw [HNc3.o]; go_wp2_with fail
    go_ret
    exact ⟨ret_i (by unfold rzCode; rw [HNc1.o, if_neg (by have := c1h.o; have := c2h.o; omega), HNc2.o, if_neg (by have := c1h.o; have := c2h.o; omega), if_neg (by rw [← HLX.o, ← HLY.o]; exact mul_yes HNb1.o), if_neg (by simp only [shOk, decide_eq_true_eq]; omega), if_neg (by simp only [valOk, decide_eq_true_eq]; omega), HNc3.o]), H3.o.bl⟩
   go_wp2_with fail
   go_ret
   exact ⟨ret_i (by unfold rzCode; rw [HNc1.o, if_neg (by have := c1h.o; have := c2h.o; omega), HNc2.o, if_neg (by have := c1h.o; have := c2h.o; omega), if_pos (by rw [← HLX.o, ← HLY.o]; exact mul_no HNb1.o)]), H1.o.bl⟩
  go_wp2_with fail
  go_ret
  exact ⟨ret_i (by unfold rzCode; rw [HNc1.o, if_neg (by have := c1h.o; have := c2h.o; omega), HNc2.o, if_pos (by have := c1h.o; have := c2h.o; omega)]), H1.o.bl⟩
 go_wp2_with fail
 go_ret
 exact ⟨ret_i (by unfold rzCode; rw [HNc1.o, if_pos (by have := c1h.o; omega)]), H2.o.bl⟩

set_option maxRecDepth 100000 in
set_option maxHeartbeats 6400000 in
theorem rrzcheck_any (w h mx : Int) (xa : Option Addr) (xm xc : Nat) (xs : Tbl) (ya : Option Addr) (ym yc : Nat) (ys : Tbl) (s s2 out : Int) (W : World) (hx : Tps W xa xm xc xs) (hy : Tps W ya ym yc ys) :
  Calls Tryz.prog 69 #[.agg #[.int .i64 w, .int .i64 h, .int .i64 mx], .slice xa xm xc, .slice ya ym yc, .int .i64 s, .int .i64 s2, .int .i64 out] W fun e w' => e = .returned (.int .i64 (rzCode w h mx xs ys s s2 out)) ∧ Below W.heap.size W w' := by
 have HLX := kq hx.len; have HLY := kq hy.len; have xmx : (xm : Int) ≤ 9223372036854775807 := by have := hx.nc; have := hx.cap; omega
 have ymx : (ym : Int) ≤ 9223372036854775807 := by have := hy.nc; have := hy.cap; omega
 have HX := kq hx; have HY := kq hy; clear hx hy; obtain ⟨B, hB⟩ : ∃ B, W.heap.size = B := ⟨_, rfl⟩; have HI0 := kq (St.init hB)
 go_enter Tryz.func69, Tryz.ntmps69
 go_upto_region 1 with fail
 have H1 := kq (HI0.o.alloc #[.int .i64 w, .int .i64 h, .int .i64 mx] 37 hB); first | refine gK H1 ?_ | refine gL H1 ?_ | refine gC H1 ?_
 clear H1; intro w3 H1; have z1 := H1.o.c3 0 rfl; go_wp2_with fail
 clear z1; refine (rtvalid_any _ _ _ _ _ _ (H1.o.oldTps HX.o)).mono ?_; rintro e w3 ⟨rfl, hb⟩; have H2 := kq (H1.o.call hb); clear hb; obtain ⟨c1, HNc1⟩ := nQ (tvCode xs w); rw [HNc1.o]
 rcases eqZ c1 0 with ⟨c1a, c1b, c1c, c1d, c1h⟩ | ⟨c1a, c1b, c1h⟩
 ·
  have z1 := H2.o.c3 0 rfl; go_wp2_with fail
  clear z1; refine (rtvalid_any _ _ _ _ _ _ (H2.o.oldTps HY.o)).mono ?_; rintro e w3 ⟨rfl, hb⟩; have H1 := kq (H2.o.call hb); clear hb; obtain ⟨c2, HNc2⟩ := nQ (tvCode ys h); rw [HNc2.o]
  rcases eqZ c2 0 with ⟨c2a, c2b, c2c, c2d, c2h⟩ | ⟨c2a, c2b, c2h⟩
  ·
   go_upto_region 7 with fail
   obtain ⟨xl1, xl2, w1, w2⟩ := tv_pos (ts := xs) (n := w) (by rw [HNc1.o]; have := c1h.o; have := c2h.o; omega); obtain ⟨yl1, yl2, h1, h2⟩ := tv_pos (ts := ys) (n := h) (by rw [HNc2.o]; have := c1h.o; have := c2h.o; omega); have hlx := HLX.o; have hly := HLY.o; have xm1 : 1 ≤ xm ∧ xm ≤ 128 := by omega
   have ym1 : 1 ≤ ym ∧ ym ≤ 128 := by omega
   clear hlx hly; obtain ⟨MM, hMM⟩ : ∃ z : Int, (xm : Int) * ym = z := ⟨_, rfl⟩; obtain ⟨mm1, mm2⟩ : 0 ≤ MM ∧ MM ≤ 16384 := by rw [← hMM]; exact len_mul xm1.2 ym1.2
   have HMM := kq (show (xs.length : Int) * (ys.length : Int) = MM from by rw [← HLX.o, ← HLY.o]; exact hMM); by_cases c4 : (4096 : Int) < MM
   ·
    go_wp2_with fail
    go_ret
    exact ⟨ret_i (by unfold rzCode; rw [HNc1.o, if_neg (by have := c1h.o; have := c2h.o; omega), HNc2.o, if_neg (by have := c1h.o; have := c2h.o; omega), if_pos (by rw [HMM.o]; omega)]), H1.o.bl⟩
   go_wp2_with fail
   refine (rshok_any _ _).mono ?_; rintro e w4 ⟨rfl, hsw⟩; have hsw2 : w3 = w4 := by first | exact hsw | exact hsw.symm
   clear hsw; subst hsw2; obtain ⟨b1, HNb1⟩ := nQ (shOk s); rw [HNb1.o]; cases b1; rotate_left
   ·
    go_wp2_with fail
    refine (rshok_any _ _).mono ?_; rintro e w4 ⟨rfl, hsw⟩; have hsw2 : w3 = w4 := by first | exact hsw | exact hsw.symm
    clear hsw; subst hsw2; obtain ⟨b1, HNb2⟩ := nQ (shOk s2); rw [HNb2.o]; cases b1; rotate_left
    ·
     have z1 := H1.o.c3 0 rfl; go_wp2_with fail
     clear z1; refine (rval_any _ _).mono ?_; rintro e w4 ⟨rfl, hsw⟩; have hsw2 : w3 = w4 := by first | exact hsw | exact hsw.symm
     clear hsw; subst hsw2; obtain ⟨b1, HNb3⟩ := nQ (valOk mx); rw [HNb3.o]; cases b1; rotate_left
     ·
      go_wp2_with fail
      refine (rval_any _ _).mono ?_; rintro e w4 ⟨rfl, hsw⟩; have hsw2 : w3 = w4 := by first | exact hsw | exact hsw.symm
      clear hsw; subst hsw2; obtain ⟨b1, HNb4⟩ := nQ (valOk out); rw [HNb4.o]; cases b1; rotate_left
      ·
       go_upto_region 14 with fail
       obtain ⟨xb, xo, hxa⟩ := HX.o.at (by omega); subst hxa; obtain ⟨yb, yo, hya⟩ := HY.o.at (by omega); subst hya; go_wp2_with fail
       go_loopw [17, 15, 16] (fun i lo hi wr => ∃ j : Nat, j ≤ xm ∧ acOk 0 mx xs j = true ∧ i = .int .i64 j ∧ lo = .int .i64 (acLo mx s xs j) ∧ hi = .int .i64 (acHi mx s xs j) ∧ St B W [.cells B #[.int .i64 w, .int .i64 h, .int .i64 mx] 37] [] wr) (fun i _ _ _ => xm - (intOf i).toNat)
       case atStart => exact ⟨0, by omega, rfl, rfl, rfl, rfl, H1.o⟩
       case round =>
        obtain ⟨j, hj, hok, rfl, rfl, rfl, hst⟩ := hrel; obtain ⟨u1, rfl⟩ : ∃ u1 : World, u1 = wr := ⟨_, rfl⟩; have H3 := kq hst; clear hst; have HOK := kq hok; clear hok; obtain ⟨LA, hLA⟩ := nK (acLo mx s xs j); obtain ⟨HA, hHA⟩ := nK (acHi mx s xs j); rw [hLA, hHA]; have HLA := kq hLA; have HHA := kq hHA; clear hLA hHA; by_cases hjn : j < xm
        ·
         have hjn' : (j : Int) < xm := by omega
         obtain ⟨xta, xtn, xtc, e1, e2, e3⟩ := HX.o.row (i := j) hjn; have HE1x := kq e1; have HE2x := kq e2; obtain ⟨p, hp⟩ : ∃ p, xs.getD j (0, []) = p := ⟨_, rfl⟩; obtain ⟨xk, ws⟩ := p; rw [hp] at e3 HE1x; simp only at e3 HE1x; have HSLx := kq e3; have HWLx := kq e3.len; have xtnm : (xtn : Int) ≤ 9223372036854775807 := by have := e3.nc; have := e3.cap; omega
         have HPx := kq hp; clear e1 e2 e3 hp; go_upto_region 17 with fail
         have H4 := kq H3.o.drew; refine wp_region_held_drew (S := (fun w' => w'.cell? ⟨B, 0, none⟩ = some (.int .i64 w) ∧ w'.cell? ⟨B, 1, none⟩ = some (.int .i64 h) ∧ w'.cell? ⟨B, 2, none⟩ = some (.int .i64 mx) ∧ w'.cell? ⟨xb, xo + j * 2 + 1, none⟩ = some (.slice xta xtn xtc))) (by kernel_rfl) ⟨H4.o.cell 0 rfl 0 rfl, H4.o.cell 0 rfl 1 rfl, H4.o.cell 0 rfl 2 rfl, (H4.o.oldCell HE2x.o)⟩ (fun hHeld => ?_); generalize u1.drew = k1 at *; refine tk 0 ?_; refine tk 1 ?_; refine tk 2 ?_; refine tk 3 ?_; refine tk 4 ?_; refine tk 5 ?_; refine tk 6 ?_; refine rdy 7 fun K hK => ?_
         go_simp
         go_at_call 92
         refine (rbounds_any _ _ _ _ _ _ _ (H4.o.old HSLx.o)).mono ?_; rintro e w3 ⟨rfl, hb⟩; have H5 := kq (H4.o.call hb); clear hb; obtain ⟨x1, HNx1⟩ := nQ (bdLo ws 0 mx); rw [HNx1.o]; obtain ⟨x2, HNx2⟩ := nQ (bdHi ws 0 mx); rw [HNx2.o]; obtain ⟨b1, HNb5⟩ := nQ (bdOk ws 0 mx); rw [HNb5.o]; refine hK.out _ _ (by (try dsimp only); exact ⟨H5.o.cell 0 rfl 0 rfl, H5.o.cell 0 rfl 1 rfl, H5.o.cell 0 rfl 2 rfl, (H5.o.oldCell HE2x.o)⟩) ?_; clear hK K hHeld; intro hHeld; try simp only [pz]
         refine tk 8 ?_; refine tk 9 ?_; refine tk 10 ?_; refine tk 11 ?_; refine tk 12 ?_; refine tk 13 ?_; refine tk 14 ?_; refine wpAnyH_done (by kernel_rfl) ?_ _; try clear hHeld
         cases b1; rotate_left
         ·
          go_wp2_with fail
          refine (rspan_any _ _ _ _).mono ?_; rintro e w4 ⟨rfl, hsw⟩; have hsw2 : w3 = w4 := by first | exact hsw | exact hsw.symm
          clear hsw; subst hsw2; obtain ⟨s1, HNs1⟩ := nQ (shV x1 s); rw [HNs1.o]; obtain ⟨s3, HNs2⟩ := nQ (shV x2 s); rw [HNs2.o]; by_cases hN : j = 0
          ·
           subst hN; go_wp2_with fail
           go_roundw
           case rel => exact ⟨0 + 1, by omega, acOk_next HOK.o (by rw [HPx.o]; exact HNb5.o), by go_num, by rw [acLo_first HPx.o (show rzLo mx s (xk, ws) = s1 from by show shV (bLo ws 0 mx ws.length) s = s1; rw [← (bdOk_yes HNb5.o).1, HNx1.o, HNs1.o])], by rw [acHi_first HPx.o (show rzHi mx s (xk, ws) = s3 from by show shV (bHi ws 0 mx ws.length) s = s3; rw [← (bdOk_yes HNb5.o).2, HNx2.o, HNs2.o])], H5.o.pick [0] rfl (by decide)⟩
           case measure => first | (simp [intOf]; omega) | (simp [intOf]; done)
          have hN0 : ((j : Int) == 0) = false := by simp; omega
          have HJ0 := kq hN; clear hN; obtain ⟨m1, hm1⟩ : ∃ zz : Int, (if s1 < LA then s1 else LA) = zz := ⟨_, rfl⟩; obtain ⟨m1, hm2⟩ : ∃ zz : Int, (if HA < s3 then s3 else HA) = zz := ⟨_, rfl⟩; go_wp2_with fail
          have HNm1 := kq hm1; clear hm1; have HNm2 := kq hm2; clear hm2
          go_roundw
          case rel => exact ⟨j + 1, by omega, acOk_next HOK.o (by rw [HPx.o]; exact HNb5.o), by go_num, by rw [acLo_next HPx.o (show rzLo mx s (xk, ws) = s1 from by show shV (bLo ws 0 mx ws.length) s = s1; rw [← (bdOk_yes HNb5.o).1, HNx1.o, HNs1.o]) HLA.o HJ0.o, HNm1.o], by rw [acHi_next HPx.o (show rzHi mx s (xk, ws) = s3 from by show shV (bHi ws 0 mx ws.length) s = s3; rw [← (bdOk_yes HNb5.o).2, HNx2.o, HNs2.o]) HHA.o HJ0.o, HNm2.o], H5.o.pick [0] rfl (by decide)⟩
          case measure => first | (simp [intOf]; omega) | (simp [intOf]; done)
         go_wp2_with fail
         go_ret
         exact ⟨ret_i (by unfold rzCode; rw [HNc1.o, if_neg (by have := c1h.o; have := c2h.o; omega), HNc2.o, if_neg (by have := c1h.o; have := c2h.o; omega), if_neg (by rw [HMM.o]; omega), if_neg (fun hc => hc ⟨HNb1.o, HNb2.o⟩), if_neg (fun hc => hc ⟨HNb3.o, HNb4.o⟩), show acCode mx s xs ys = 11 from by unfold acCode; rw [if_pos (acOk_fail (by rw [← HLX.o]; exact hjn) (by rw [HPx.o]; exact HNb5.o))]]), H5.o.bl⟩
        have hjn' : ¬ ((j : Int) < xm) := by omega
        have hxe : xs.length = j := by have := HLX.o; omega
        have HAO := kq (show acOk 0 mx xs xs.length = true from by rw [hxe]; exact HOK.o); have HLE := kq (show acLo mx s xs xs.length = LA from by rw [hxe]; exact HLA.o); have HHE := kq (show acHi mx s xs xs.length = HA from by rw [hxe]; exact HHA.o); clear hxe; go_wp2_with fail
        go_loopw [21] (fun i wr => ∃ q : Nat, q ≤ ym ∧ acOk LA HA ys q = true ∧ i = .int .i64 q ∧ St B W [.cells B #[.int .i64 w, .int .i64 h, .int .i64 mx] 37] [] wr) (fun i _ => ym - (intOf i).toNat)
        case atStart => exact ⟨0, by omega, rfl, rfl, H3.o.pick [0] rfl (by decide)⟩
        case round =>
         obtain ⟨q, hq, hoq, rfl, hst⟩ := hrel; obtain ⟨u1, rfl⟩ : ∃ u1 : World, u1 = wr := ⟨_, rfl⟩; have H3 := kq hst; clear hst; have HOQ := kq hoq; clear hoq; by_cases hqn : q < ym
         ·
          have hqn' : (q : Int) < ym := by omega
          obtain ⟨yta, ytn, ytc, e1, e2, e3⟩ := HY.o.row (i := q) hqn; have HE1y := kq e1; have HE2y := kq e2; obtain ⟨p, hp⟩ : ∃ p, ys.getD q (0, []) = p := ⟨_, rfl⟩; obtain ⟨yk, us⟩ := p; rw [hp] at e3 HE1y; simp only at e3 HE1y; have HSLy := kq e3; have HWLy := kq e3.len; have ytnm : (ytn : Int) ≤ 9223372036854775807 := by have := e3.nc; have := e3.cap; omega
          have HPy := kq hp; clear e1 e2 e3 hp; have f1y := H3.o.oldCell HE1y.o; have f2y := H3.o.oldCell HE2y.o; go_wp2_with fail
          refine (rbounds_any _ _ _ _ _ _ _ (H3.o.old HSLy.o)).mono ?_; rintro e w3 ⟨rfl, hb⟩; have H4 := kq (H3.o.call hb); clear hb; obtain ⟨x1, HNx1⟩ := nQ (bdLo us LA HA); rw [HNx1.o]; obtain ⟨x1, HNx1⟩ := nQ (bdHi us LA HA); rw [HNx1.o]; obtain ⟨b1, HNb5⟩ := nQ (bdOk us LA HA); rw [HNb5.o]; cases b1; rotate_left
          ·
           go_wp2_with fail
           go_roundw
           case rel => exact ⟨q + 1, by omega, acOk_next HOQ.o (by rw [HPy.o]; exact HNb5.o), by go_num, H4.o.pick [0] rfl (by decide)⟩
           case measure => first | (simp [intOf]; omega) | (simp [intOf]; done)
          go_wp2_with fail
          go_ret
          exact ⟨ret_i (by unfold rzCode; rw [HNc1.o, if_neg (by have := c1h.o; have := c2h.o; omega), HNc2.o, if_neg (by have := c1h.o; have := c2h.o; omega), if_neg (by rw [HMM.o]; omega), if_neg (fun hc => hc ⟨HNb1.o, HNb2.o⟩), if_neg (fun hc => hc ⟨HNb3.o, HNb4.o⟩), show acCode mx s xs ys = 11 from by unfold acCode; rw [if_neg (by rw [HAO.o]; simp), HLE.o, HHE.o, if_pos (acOk_fail (by rw [← HLY.o]; exact hqn) (by rw [HPy.o]; exact HNb5.o))]]), H4.o.bl⟩
         have hqn' : ¬ ((q : Int) < ym) := by omega
         have HBO := kq (show acOk LA HA ys ys.length = true from by rw [← HLY.o, show ym = q by omega]; exact HOQ.o); go_wp2_with fail
         go_ret
         exact ⟨ret_i (by unfold rzCode; rw [HNc1.o, if_neg (by have := c1h.o; have := c2h.o; omega), HNc2.o, if_neg (by have := c1h.o; have := c2h.o; omega), if_neg (by rw [HMM.o]; omega), if_neg (fun hc => hc ⟨HNb1.o, HNb2.o⟩), if_neg (fun hc => hc ⟨HNb3.o, HNb4.o⟩), show acCode mx s xs ys = 0 from by unfold acCode; rw [if_neg (by rw [HAO.o]; simp), HLE.o, HHE.o, if_neg (by rw [HBO.o]; simp)]]), H3.o.bl⟩
      go_wp2_with fail
      go_ret
      exact ⟨ret_i (by unfold rzCode; rw [HNc1.o, if_neg (by have := c1h.o; have := c2h.o; omega), HNc2.o, if_neg (by have := c1h.o; have := c2h.o; omega), if_neg (by rw [HMM.o]; omega), if_neg (fun hc => hc ⟨HNb1.o, HNb2.o⟩), if_pos (by intro hc; have h := hc.2; rw [HNb4.o] at h; cases h)]), H1.o.bl⟩
     go_wp2_with fail
     go_ret
     exact ⟨ret_i (by unfold rzCode; rw [HNc1.o, if_neg (by have := c1h.o; have := c2h.o; omega), HNc2.o, if_neg (by have := c1h.o; have := c2h.o; omega), if_neg (by rw [HMM.o]; omega), if_neg (fun hc => hc ⟨HNb1.o, HNb2.o⟩), if_pos (by intro hc; have h := hc.1; rw [HNb3.o] at h; cases h)]), H1.o.bl⟩
    go_wp2_with fail
    go_ret
    exact ⟨ret_i (by unfold rzCode; rw [HNc1.o, if_neg (by have := c1h.o; have := c2h.o; omega), HNc2.o, if_neg (by have := c1h.o; have := c2h.o; omega), if_neg (by rw [HMM.o]; omega), if_pos (by intro hc; have h := hc.2; rw [HNb2.o] at h; cases h)]), H1.o.bl⟩
   go_wp2_with fail
   go_ret
   exact ⟨ret_i (by unfold rzCode; rw [HNc1.o, if_neg (by have := c1h.o; have := c2h.o; omega), HNc2.o, if_neg (by have := c1h.o; have := c2h.o; omega), if_neg (by rw [HMM.o]; omega), if_pos (by intro hc; have h := hc.1; rw [HNb1.o] at h; cases h)]), H1.o.bl⟩
  go_wp2_with fail
  go_ret
  exact ⟨ret_i (by unfold rzCode; rw [HNc1.o, if_neg (by have := c1h.o; have := c2h.o; omega), HNc2.o, if_pos (by have := c1h.o; have := c2h.o; omega)]), H1.o.bl⟩
 go_wp2_with fail
 go_ret
 exact ⟨ret_i (by unfold rzCode; rw [HNc1.o, if_pos (by have := c1h.o; omega)]), H2.o.bl⟩
end Go.Proofs.YteejjnhlfgjlaaaGreat
