/-
 Contracts: the errors of tables for resizing, in the program and in the reference.
-/
import Derived.Test.YteejjnhlfgjlaaaRzPlain
import Derived.Test.YteejjnhlfgjlaaaKJ
import Derived.Test.YteejjnhlfgjlaaaKN
namespace Go.Proofs.Yteejjnhlfgjlaaa
open Go.RowKit
attribute [local go_sem ↓] Go.wp_at_zero Go.wp_at_succ
set_option linter.unusedVariables false
set_option linter.unusedSimpArgs false

theorem acLo_next {mx s : Int} {x : Tbl} {j : Nat} {p : Int × List Int} {v L : Int} (hp : x.getD j (0, []) = p) (hv : rzLo mx s p = v) (hL : acLo mx s x j = L) (hj : j ≠ 0) : acLo mx s x (j + 1) = if v < L then v else L := by
 simp only [acLo]; rw [if_neg hj, hp, hv, hL]; split <;> split <;> omega
theorem acHi_next {mx s : Int} {x : Tbl} {j : Nat} {p : Int × List Int} {v L : Int} (hp : x.getD j (0, []) = p) (hv : rzHi mx s p = v) (hL : acHi mx s x j = L) (hj : j ≠ 0) : acHi mx s x (j + 1) = if L < v then v else L := by
 simp only [acHi]; rw [if_neg hj, hp, hv, hL]; split <;> split <;> omega
theorem acLo_first {mx s : Int} {x : Tbl} {p : Int × List Int} {v : Int} (hp : x.getD 0 (0, []) = p) (hv : rzLo mx s p = v) : acLo mx s x (0 + 1) = v := by
 simp only [acLo]; rw [if_pos trivial, hp, hv]
theorem acHi_first {mx s : Int} {x : Tbl} {p : Int × List Int} {v : Int} (hp : x.getD 0 (0, []) = p) (hv : rzHi mx s p = v) : acHi mx s x (0 + 1) = v := by
 simp only [acHi]; rw [if_pos trivial, hp, hv]
theorem tv_pos {ts : Tbl} {n : Int} (h : tvCode ts n = 0) : 1 ≤ ts.length ∧ ts.length ≤ 128 ∧ 1 ≤ n ∧ n ≤ 128 := by
 unfold tvCode at h; split at h <;> omega
theorem len_mul {a b : Nat} (ha : a ≤ 128) (hb : b ≤ 128) : 0 ≤ (a : Int) * b ∧ (a : Int) * b ≤ 16384 := by
 have h1 : (a : Int) * b ≤ 128 * 128 := Int.mul_le_mul (by omega) (by omega) (by omega) (by omega); have h2 : 0 ≤ (a : Int) * b := Int.mul_nonneg (by omega) (by omega)
 omega

set_option maxRecDepth 100000 in
set_option maxHeartbeats 6400000 in
theorem rzacc_any (xa : Option Addr) (xm xc : Nat) (xs : Tbl) (ya : Option Addr) (ym yc : Nat) (ys : Tbl) (mx s : Int) (W : World) (hx : Tps W xa xm xc xs) (hy : Tps W ya ym yc ys) (x0 : 1 ≤ xm) (y0 : 1 ≤ ym) :
    Calls Try.prog 57 #[.slice xa xm xc, .slice ya ym yc, .int .i64 mx, .int .i64 s] W fun e w' => e = .returned (.int .i64 (acCode mx s xs ys)) ∧ Below W.heap.size W w' := by
  have HLX := hid hx.len; have HLY := hid hy.len; have xmx : (xm : Int) ≤ 9223372036854775807 := by have := hx.nc; have := hx.cap; omega
  have ymx : (ym : Int) ≤ 9223372036854775807 := by have := hy.nc; have := hy.cap; omega
  obtain ⟨xb, xo, hxa⟩ := hx.at (by omega); subst hxa; obtain ⟨yb, yo, hya⟩ := hy.at (by omega); subst hya; have HX := hid hx; have HY := hid hy; clear hx hy; obtain ⟨B, hB⟩ : ∃ B, W.heap.size = B := ⟨_, rfl⟩; have HI0 := hid (St.init hB)
  go_enter Try.func57, Try.ntmps57
  go_wp2_with fail
  go_loopw [23, 9, 10] (fun i lo hi wr => ∃ j : Nat, j ≤ xm ∧ acOk 0 mx xs j = true ∧ i = .int .i64 j ∧ lo = .int .i64 (acLo mx s xs j) ∧ hi = .int .i64 (acHi mx s xs j) ∧ St B W [] [] wr) (fun i _ _ _ => xm - (intOf i).toNat)
  case atStart => exact ⟨0, by omega, rfl, rfl, rfl, rfl, HI0.out⟩
  case round =>
    obtain ⟨j, hj, hok, rfl, rfl, rfl, hst⟩ := hrel; obtain ⟨u1, rfl⟩ : ∃ u1 : World, u1 = wr := ⟨_, rfl⟩; have H2 := hid hst; clear hst; have HOK := hid hok; clear hok; obtain ⟨LA, hLA⟩ : ∃ z, acLo mx s xs j = z := ⟨_, rfl⟩; obtain ⟨HA, hHA⟩ : ∃ z, acHi mx s xs j = z := ⟨_, rfl⟩; rw [hLA, hHA]; have HLA := hid hLA; have HHA := hid hHA; clear hLA hHA; by_cases hjn : j < xm
    · skip
      have hjn' : (j : Int) < xm := by omega
      obtain ⟨xta, xtn, xtc, e1, e2, e3⟩ := HX.out.row (i := j) hjn; have HE1x := hid e1; have HE2x := hid e2; obtain ⟨p, hp⟩ : ∃ p, xs.getD j (0, []) = p := ⟨_, rfl⟩; obtain ⟨xk, ws⟩ := p; rw [hp] at e3 HE1x; simp only at e3 HE1x; have HSLx := hid e3; have HWLx := hid e3.len; have xtnm : (xtn : Int) ≤ 9223372036854775807 := by have := e3.nc; have := e3.cap; omega
      have HPx := hid hp; clear e1 e2 e3 hp; have f1x := H2.out.oldCell HE1x.out; have f2x := H2.out.oldCell HE2x.out; obtain ⟨D3, hD3⟩ : ∃ D, u1.heap.size = D := ⟨_, rfl⟩; go_upto_region 5 with fail
      have H4 := hid (H2.out.alloc #[.int .i64 xk, .slice xta xtn xtc] 55 hD3); first | refine gK H4 ?_ | refine gL H4 ?_ | refine gC H4 ?_
      clear H4; intro w5 H4; clear hD3; obtain ⟨z6, z7⟩ := H4.out.c2 0 rfl; go_wp2_with fail
      clear z6 z7; refine (fbounds_any _ _ _ _ _ _ _ (H4.out.old HSLx.out)).mono ?_; rintro e w8 ⟨rfl, hb⟩; have H9 := hid (H4.out.call hb); clear hb; obtain ⟨x1, hx1⟩ : ∃ xx', bdLo ws 0 mx = xx' := ⟨_, rfl⟩; rw [hx1]; have HNx1 := hid hx1; clear hx1; obtain ⟨x2, hx1⟩ : ∃ xx', bdHi ws 0 mx = xx' := ⟨_, rfl⟩; rw [hx1]; have HNx2 := hid hx1; clear hx1; obtain ⟨b1, hb1⟩ : ∃ xx', bdOk ws 0 mx = xx' := ⟨_, rfl⟩; rw [hb1]; have HNb1 := hid hb1; clear hb1; cases b1; rotate_left
      ·
        go_wp2_with fail
        refine (fspan_any _ _ _ _).mono ?_; rintro e w1 ⟨rfl, hsw⟩; have hsw2 : w8 = w1 := by first | exact hsw | exact hsw.symm
        clear hsw; subst hsw2; obtain ⟨s1, hs1⟩ : ∃ xx', shV x1 s = xx' := ⟨_, rfl⟩; rw [hs1]; have HNs1 := hid hs1; clear hs1; obtain ⟨s2, hs1⟩ : ∃ xx', shV x2 s = xx' := ⟨_, rfl⟩; rw [hs1]; have HNs2 := hid hs1; clear hs1; by_cases hN : j = 0
        · skip
          subst hN; go_wp2_with fail
          go_roundw
          case rel => exact ⟨0 + 1, by omega, acOk_next HOK.out (by rw [HPx.out]; exact HNb1.out), by go_num, by rw [acLo_first HPx.out (show rzLo mx s (xk, ws) = s1 from by show shV (bLo ws 0 mx ws.length) s = s1; rw [← (bdOk_yes HNb1.out).1, HNx1.out, HNs1.out])], by rw [acHi_first HPx.out (show rzHi mx s (xk, ws) = s2 from by show shV (bHi ws 0 mx ws.length) s = s2; rw [← (bdOk_yes HNb1.out).2, HNx2.out, HNs2.out])], H9.out.pick [] rfl (by decide)⟩
          case measure => first | (simp [intOf]; omega) | (simp [intOf]; done)
        · skip
          have hN0 : ((j : Int) == 0) = false := by simp; omega
          have HJ0 := hid hN; clear hN; obtain ⟨m16, hm16⟩ : ∃ zz : Int, (if s1 < LA then s1 else LA) = zz := ⟨_, rfl⟩; obtain ⟨m1, hm1⟩ : ∃ zz : Int, (if HA < s2 then s2 else HA) = zz := ⟨_, rfl⟩; go_wp2_with fail
          have HNm16 := hid hm16; clear hm16; have HNm1 := hid hm1; clear hm1
          go_roundw
          case rel => exact ⟨j + 1, by omega, acOk_next HOK.out (by rw [HPx.out]; exact HNb1.out), by go_num, by rw [acLo_next HPx.out (show rzLo mx s (xk, ws) = s1 from by show shV (bLo ws 0 mx ws.length) s = s1; rw [← (bdOk_yes HNb1.out).1, HNx1.out, HNs1.out]) HLA.out HJ0.out, HNm16.out], by rw [acHi_next HPx.out (show rzHi mx s (xk, ws) = s2 from by show shV (bHi ws 0 mx ws.length) s = s2; rw [← (bdOk_yes HNb1.out).2, HNx2.out, HNs2.out]) HHA.out HJ0.out, HNm1.out], H9.out.pick [] rfl (by decide)⟩
          case measure => first | (simp [intOf]; omega) | (simp [intOf]; done)
      go_wp2_with fail
      go_ret
      exact ⟨ret_i (by unfold acCode; rw [if_pos (acOk_fail (by rw [← HLX.out]; exact hjn) (by rw [HPx.out]; exact HNb1.out))]), H9.out.bl⟩
    · skip
      have hjn' : ¬ ((j : Int) < xm) := by omega
      have hxe : xs.length = j := by have := HLX.out; omega
      have HAO := hid (show acOk 0 mx xs xs.length = true from by rw [hxe]; exact HOK.out); have HLE := hid (show acLo mx s xs xs.length = LA from by rw [hxe]; exact HLA.out); have HHE := hid (show acHi mx s xs xs.length = HA from by rw [hxe]; exact HHA.out); clear hxe; go_wp2_with fail
      go_loopw [58] (fun i wr => ∃ q : Nat, q ≤ ym ∧ acOk LA HA ys q = true ∧ i = .int .i64 q ∧ St B W [] [] wr) (fun i _ => ym - (intOf i).toNat)
      case atStart => exact ⟨0, by omega, rfl, rfl, H2.out.pick [] rfl (by decide)⟩
      case round =>
        obtain ⟨q, hq, hoq, rfl, hst⟩ := hrel; obtain ⟨u2, rfl⟩ : ∃ u2 : World, u2 = wr := ⟨_, rfl⟩; have H1 := hid hst; clear hst; have HOQ := hid hoq; clear hoq; by_cases hqn : q < ym
        · skip
          have hqn' : (q : Int) < ym := by omega
          obtain ⟨yta, ytn, ytc, e1, e2, e3⟩ := HY.out.row (i := q) hqn; have HE1y := hid e1; have HE2y := hid e2; obtain ⟨p, hp⟩ : ∃ p, ys.getD q (0, []) = p := ⟨_, rfl⟩; obtain ⟨yk, us⟩ := p; rw [hp] at e3 HE1y; simp only at e3 HE1y; have HSLy := hid e3; have HWLy := hid e3.len; have ytnm : (ytn : Int) ≤ 9223372036854775807 := by have := e3.nc; have := e3.cap; omega
          have HPy := hid hp; clear e1 e2 e3 hp; have f1y := H1.out.oldCell HE1y.out; have f2y := H1.out.oldCell HE2y.out; obtain ⟨D1, hD1⟩ : ∃ D, u2.heap.size = D := ⟨_, rfl⟩; go_upto_region 16 with fail
          have H3 := hid (H1.out.alloc #[.int .i64 yk, .slice yta ytn ytc] 55 hD1); first | refine gK H3 ?_ | refine gL H3 ?_ | refine gC H3 ?_
          clear H3; intro w1 H3; clear hD1; obtain ⟨z1, z2⟩ := H3.out.c2 0 rfl; go_wp2_with fail
          clear z1 z2; refine (fbounds_any _ _ _ _ _ _ _ (H3.out.old HSLy.out)).mono ?_; rintro e w1 ⟨rfl, hb⟩; have H5 := hid (H3.out.call hb); clear hb; obtain ⟨x1, hx1⟩ : ∃ xx', bdLo us LA HA = xx' := ⟨_, rfl⟩; rw [hx1]; have HNx1 := hid hx1; clear hx1; obtain ⟨x1, hx1⟩ : ∃ xx', bdHi us LA HA = xx' := ⟨_, rfl⟩; rw [hx1]; have HNx1 := hid hx1; clear hx1; obtain ⟨b1, hb1⟩ : ∃ xx', bdOk us LA HA = xx' := ⟨_, rfl⟩; rw [hb1]; have HNb1 := hid hb1; clear hb1; cases b1; rotate_left
          ·
            go_wp2_with fail
            go_roundw
            case rel => exact ⟨q + 1, by omega, acOk_next HOQ.out (by rw [HPy.out]; exact HNb1.out), by go_num, H5.out.pick [] rfl (by decide)⟩
            case measure => first | (simp [intOf]; omega) | (simp [intOf]; done)
          go_wp2_with fail
          go_ret
          exact ⟨ret_i (by unfold acCode; rw [if_neg (by rw [HAO.out]; simp), HLE.out, HHE.out, if_pos (acOk_fail (by rw [← HLY.out]; exact hqn) (by rw [HPy.out]; exact HNb1.out))]), H5.out.bl⟩
        · skip
          have hqn' : ¬ ((q : Int) < ym) := by omega
          have HBO := hid (show acOk LA HA ys ys.length = true from by rw [← HLY.out, show ym = q by omega]; exact HOQ.out); go_wp2_with fail
          go_ret
          exact ⟨ret_i (by unfold acCode; rw [if_neg (by rw [HAO.out]; simp), HLE.out, HHE.out, if_neg (by rw [HBO.out]; simp)]), H1.out.bl⟩

theorem mul_no {a b : Nat} (h : mOk (a : Int) (b : Int) 4096 = false) : 4096 < (a : Int) * (b : Int) := by
 rcases Int.lt_or_le 4096 ((a : Int) * (b : Int)) with hc | hc
 ·
  exact hc
 exact absurd (show (0 : Int) ≤ a ∧ (0 : Int) ≤ b ∧ (0 : Int) ≤ 4096 ∧ (a : Int) * b ≤ 4096 from ⟨by omega, by omega, by omega, hc⟩) (of_decide_eq_false h)
theorem mul_yes {a b : Nat} (h : mOk (a : Int) (b : Int) 4096 = true) : ¬ 4096 < (a : Int) * (b : Int) := by
 have h' := (of_decide_eq_true h).2.2.2
 omega

set_option maxRecDepth 100000 in
set_option maxHeartbeats 6400000 in
theorem rzcheck_any (w h mx : Int) (xa : Option Addr) (xm xc : Nat) (xs : Tbl) (ya : Option Addr) (ym yc : Nat) (ys : Tbl) (s s2 out : Int) (W : World) (hx : Tps W xa xm xc xs) (hy : Tps W ya ym yc ys) :
    Calls Try.prog 42 #[.agg #[.int .i64 w, .int .i64 h, .int .i64 mx], .slice xa xm xc, .slice ya ym yc, .int .i64 s, .int .i64 s2, .int .i64 out] W fun e w' => e = .returned (.int .i64 (rzCode w h mx xs ys s s2 out)) ∧ Below W.heap.size W w' := by
  have HLX := hid hx.len; have HLY := hid hy.len; have xmx : (xm : Int) ≤ 9223372036854775807 := by have := hx.nc; have := hx.cap; omega
  have ymx : (ym : Int) ≤ 9223372036854775807 := by have := hy.nc; have := hy.cap; omega
  have HX := hid hx; have HY := hid hy; clear hx hy; obtain ⟨B, hB⟩ : ∃ B, W.heap.size = B := ⟨_, rfl⟩; have HI0 := hid (St.init hB)
  go_enter Try.func42, Try.ntmps42
  go_upto_region 1 with fail
  have H1 := hid (HI0.out.alloc #[.int .i64 w, .int .i64 h, .int .i64 mx] 24 hB); first | refine gK H1 ?_ | refine gL H1 ?_ | refine gC H1 ?_
  clear H1; intro w3 H1; obtain ⟨z32, z1, z2⟩ := H1.out.c3 0 rfl; go_wp2_with fail
  clear z32 z1 z2; refine (tvalid_any _ _ _ _ _ _ (H1.out.oldTps HX.out)).mono ?_; rintro e w3 ⟨rfl, hb⟩; have H2 := hid (H1.out.call hb); clear hb; obtain ⟨c1, hc1⟩ : ∃ xx', tvCode xs w = xx' := ⟨_, rfl⟩; rw [hc1]; have HNc1 := hid hc1; clear hc1; by_cases c2 : (c1 : Int) = 0
  · obtain ⟨c2c, c2d⟩ : (c1 : Int) ≤ 0 ∧ (0 : Int) ≤ c1 := by omega
    have c2a : ((c1 : Int) == (0)) = true := by simpa using c2
    have c2b : ((c1 : Int) != (0)) = false := by simpa using c2
    have c2h := hid c2; clear c2; obtain ⟨z1, z2, z3⟩ := H2.out.c3 0 rfl; go_wp2_with fail
    clear z1 z2 z3; refine (tvalid_any _ _ _ _ _ _ (H2.out.oldTps HY.out)).mono ?_; rintro e w3 ⟨rfl, hb⟩; have H1 := hid (H2.out.call hb); clear hb; obtain ⟨c4, hc1⟩ : ∃ xx', tvCode ys h = xx' := ⟨_, rfl⟩; rw [hc1]; have HNc2 := hid hc1; clear hc1; by_cases c5 : (c4 : Int) = 0
    · obtain ⟨c5c, c5d⟩ : (c4 : Int) ≤ 0 ∧ (0 : Int) ≤ c4 := by omega
      have c5a : ((c4 : Int) == (0)) = true := by simpa using c5
      have c5b : ((c4 : Int) != (0)) = false := by simpa using c5
      have c5h := hid c5; clear c5; go_upto_region 7 with fail
      obtain ⟨xl1, xl2, w1, w2⟩ := tv_pos (ts := xs) (n := w) (by rw [HNc1.out]; have := c2h.out; have := c5h.out; omega); obtain ⟨yl1, yl2, h1, h2⟩ := tv_pos (ts := ys) (n := h) (by rw [HNc2.out]; have := c2h.out; have := c5h.out; omega); have hlx := HLX.out; have hly := HLY.out; have xm1 : 1 ≤ xm ∧ xm ≤ 128 := by omega
      have ym1 : 1 ≤ ym ∧ ym ≤ 128 := by omega
      clear hlx hly; go_wp2_with fail
      refine (mulAny _ _ _ _ (by omega)).mono ?_; rintro e w4 ⟨rfl, hsw⟩; have hsw2 : w3 = w4 := by first | exact hsw | exact hsw.symm
      clear hsw; subst hsw2; obtain ⟨v1, hv1⟩ : ∃ xx', mVal (xm : Int) (ym : Int) 4096 = xx' := ⟨_, rfl⟩; rw [hv1]; have HNv1 := hid hv1; clear hv1; obtain ⟨b1, hb1⟩ : ∃ xx', mOk (xm : Int) (ym : Int) 4096 = xx' := ⟨_, rfl⟩; rw [hb1]; have HNb1 := hid hb1; clear hb1; cases b1; rotate_left
      ·
        by_cases c6 : (s : Int) < 0
        · skip
          go_wp2_with fail
          go_ret
          exact ⟨ret_i (by unfold rzCode; rw [HNc1.out, if_neg (by have := c2h.out; have := c5h.out; omega), HNc2.out, if_neg (by have := c2h.out; have := c5h.out; omega), if_neg (by rw [← HLX.out, ← HLY.out]; exact mul_yes HNb1.out), if_pos (by simp only [shOk, decide_eq_true_eq]; omega)]), H1.out.bl⟩
        · skip
          by_cases c6 : (24 : Int) < s
          · skip
            go_wp2_with fail
            go_ret
            exact ⟨ret_i (by unfold rzCode; rw [HNc1.out, if_neg (by have := c2h.out; have := c5h.out; omega), HNc2.out, if_neg (by have := c2h.out; have := c5h.out; omega), if_neg (by rw [← HLX.out, ← HLY.out]; exact mul_yes HNb1.out), if_pos (by simp only [shOk, decide_eq_true_eq]; omega)]), H1.out.bl⟩
          · skip
            by_cases c6 : (s2 : Int) < 0
            · skip
              go_wp2_with fail
              go_ret
              exact ⟨ret_i (by unfold rzCode; rw [HNc1.out, if_neg (by have := c2h.out; have := c5h.out; omega), HNc2.out, if_neg (by have := c2h.out; have := c5h.out; omega), if_neg (by rw [← HLX.out, ← HLY.out]; exact mul_yes HNb1.out), if_pos (by simp only [shOk, decide_eq_true_eq]; omega)]), H1.out.bl⟩
            · skip
              by_cases c6 : (24 : Int) < s2
              · skip
                go_wp2_with fail
                go_ret
                exact ⟨ret_i (by unfold rzCode; rw [HNc1.out, if_neg (by have := c2h.out; have := c5h.out; omega), HNc2.out, if_neg (by have := c2h.out; have := c5h.out; omega), if_neg (by rw [← HLX.out, ← HLY.out]; exact mul_yes HNb1.out), if_pos (by simp only [shOk, decide_eq_true_eq]; omega)]), H1.out.bl⟩
              · skip
                by_cases c6 : (mx : Int) < 1
                · skip
                  obtain ⟨z1, z2, z3⟩ := H1.out.c3 0 rfl; go_wp2_with fail
                  clear z1 z2 z3
                  go_ret
                  exact ⟨ret_i (by unfold rzCode; rw [HNc1.out, if_neg (by have := c2h.out; have := c5h.out; omega), HNc2.out, if_neg (by have := c2h.out; have := c5h.out; omega), if_neg (by rw [← HLX.out, ← HLY.out]; exact mul_yes HNb1.out), if_neg (by simp only [shOk, decide_eq_true_eq]; omega), if_pos (by simp only [valOk, decide_eq_true_eq]; omega)]), H1.out.bl⟩
                · skip
                  by_cases c6 : (4294967296 : Int) < mx
                  · skip
                    obtain ⟨z1, z2, z3⟩ := H1.out.c3 0 rfl; go_wp2_with fail
                    clear z1 z2 z3
                    go_ret
                    exact ⟨ret_i (by unfold rzCode; rw [HNc1.out, if_neg (by have := c2h.out; have := c5h.out; omega), HNc2.out, if_neg (by have := c2h.out; have := c5h.out; omega), if_neg (by rw [← HLX.out, ← HLY.out]; exact mul_yes HNb1.out), if_neg (by simp only [shOk, decide_eq_true_eq]; omega), if_pos (by simp only [valOk, decide_eq_true_eq]; omega)]), H1.out.bl⟩
                  · skip
                    by_cases c6 : (out : Int) < 1
                    · skip
                      obtain ⟨z1, z2, z64⟩ := H1.out.c3 0 rfl; go_wp2_with fail
                      clear z1 z2 z64
                      go_ret
                      exact ⟨ret_i (by unfold rzCode; rw [HNc1.out, if_neg (by have := c2h.out; have := c5h.out; omega), HNc2.out, if_neg (by have := c2h.out; have := c5h.out; omega), if_neg (by rw [← HLX.out, ← HLY.out]; exact mul_yes HNb1.out), if_neg (by simp only [shOk, decide_eq_true_eq]; omega), if_pos (by simp only [valOk, decide_eq_true_eq]; omega)]), H1.out.bl⟩
                    · skip
                      by_cases c6 : (4294967296 : Int) < out
                      · skip
                        obtain ⟨z1, z2, z3⟩ := H1.out.c3 0 rfl; go_wp2_with fail
                        clear z1 z2 z3
                        go_ret
                        exact ⟨ret_i (by unfold rzCode; rw [HNc1.out, if_neg (by have := c2h.out; have := c5h.out; omega), HNc2.out, if_neg (by have := c2h.out; have := c5h.out; omega), if_neg (by rw [← HLX.out, ← HLY.out]; exact mul_yes HNb1.out), if_neg (by simp only [shOk, decide_eq_true_eq]; omega), if_pos (by simp only [valOk, decide_eq_true_eq]; omega)]), H1.out.bl⟩
                      · skip
                        obtain ⟨z1, z2, z3⟩ := H1.out.c3 0 rfl; go_wp2_with fail
                        clear z1 z2 z3; refine (rzacc_any _ _ _ _ _ _ _ _ _ _ _ (H1.out.oldTps HX.out) (H1.out.oldTps HY.out) (by omega) (by omega)).mono ?_; rintro e w3 ⟨rfl, hb⟩; have H3 := hid (H1.out.call hb); clear hb; obtain ⟨c6, hc1⟩ : ∃ xx', acCode mx s xs ys = xx' := ⟨_, rfl⟩; rw [hc1]; have HNc3 := hid hc1; clear hc1; go_wp2_with fail
                        go_ret
                        exact ⟨ret_i (by unfold rzCode; rw [HNc1.out, if_neg (by have := c2h.out; have := c5h.out; omega), HNc2.out, if_neg (by have := c2h.out; have := c5h.out; omega), if_neg (by rw [← HLX.out, ← HLY.out]; exact mul_yes HNb1.out), if_neg (by simp only [shOk, decide_eq_true_eq]; omega), if_neg (by simp only [valOk, decide_eq_true_eq]; omega), HNc3.out]), H3.out.bl⟩
      go_wp2_with fail
      go_ret
      exact ⟨ret_i (by unfold rzCode; rw [HNc1.out, if_neg (by have := c2h.out; have := c5h.out; omega), HNc2.out, if_neg (by have := c2h.out; have := c5h.out; omega), if_pos (by rw [← HLX.out, ← HLY.out]; exact mul_no HNb1.out)]), H1.out.bl⟩
    · have c5a : ((c4 : Int) == (0)) = false := by simpa using c5
      have c5b : ((c4 : Int) != (0)) = true := by simpa using c5
      have c5h := hid c5; clear c5; go_wp2_with fail
      go_ret
      exact ⟨ret_i (by unfold rzCode; rw [HNc1.out, if_neg (by have := c2h.out; have := c5h.out; omega), HNc2.out, if_pos (by have := c2h.out; have := c5h.out; omega)]), H1.out.bl⟩
  · have c2a : ((c1 : Int) == (0)) = false := by simpa using c2
    have c2b : ((c1 : Int) != (0)) = true := by simpa using c2
    have c2h := hid c2; clear c2; go_wp2_with fail
    go_ret
    exact ⟨ret_i (by unfold rzCode; rw [HNc1.out, if_pos (by have := c2h.out; omega)]), H2.out.bl⟩

set_option maxRecDepth 100000 in
set_option maxHeartbeats 6400000 in
theorem rrzcheck_any (w h mx : Int) (xa : Option Addr) (xm xc : Nat) (xs : Tbl) (ya : Option Addr) (ym yc : Nat) (ys : Tbl) (s s2 out : Int) (W : World) (hx : Tps W xa xm xc xs) (hy : Tps W ya ym yc ys) :
    Calls Try.prog 47 #[.agg #[.int .i64 w, .int .i64 h, .int .i64 mx], .slice xa xm xc, .slice ya ym yc, .int .i64 s, .int .i64 s2, .int .i64 out] W fun e w' => e = .returned (.int .i64 (rzCode w h mx xs ys s s2 out)) ∧ Below W.heap.size W w' := by
  have HLX := hid hx.len; have HLY := hid hy.len; have xmx : (xm : Int) ≤ 9223372036854775807 := by have := hx.nc; have := hx.cap; omega
  have ymx : (ym : Int) ≤ 9223372036854775807 := by have := hy.nc; have := hy.cap; omega
  have HX := hid hx; have HY := hid hy; clear hx hy; obtain ⟨B, hB⟩ : ∃ B, W.heap.size = B := ⟨_, rfl⟩; have HI0 := hid (St.init hB)
  go_enter Try.func47, Try.ntmps47
  go_upto_region 1 with fail
  have H1 := hid (HI0.out.alloc #[.int .i64 w, .int .i64 h, .int .i64 mx] 24 hB); first | refine gK H1 ?_ | refine gL H1 ?_ | refine gC H1 ?_
  clear H1; intro w3 H1; obtain ⟨z1, z2, z3⟩ := H1.out.c3 0 rfl; go_wp2_with fail
  clear z1 z2 z3; refine (rtvalid_any _ _ _ _ _ _ (H1.out.oldTps HX.out)).mono ?_; rintro e w3 ⟨rfl, hb⟩; have H2 := hid (H1.out.call hb); clear hb; obtain ⟨c1, hc1⟩ : ∃ xx', tvCode xs w = xx' := ⟨_, rfl⟩; rw [hc1]; have HNc1 := hid hc1; clear hc1; by_cases c2 : (c1 : Int) = 0
  · obtain ⟨c2c, c2d⟩ : (c1 : Int) ≤ 0 ∧ (0 : Int) ≤ c1 := by omega
    have c2a : ((c1 : Int) == (0)) = true := by simpa using c2
    have c2b : ((c1 : Int) != (0)) = false := by simpa using c2
    have c2h := hid c2; clear c2; obtain ⟨z1, z2, z3⟩ := H2.out.c3 0 rfl; go_wp2_with fail
    clear z1 z2 z3; refine (rtvalid_any _ _ _ _ _ _ (H2.out.oldTps HY.out)).mono ?_; rintro e w3 ⟨rfl, hb⟩; have H1 := hid (H2.out.call hb); clear hb; obtain ⟨c4, hc1⟩ : ∃ xx', tvCode ys h = xx' := ⟨_, rfl⟩; rw [hc1]; have HNc2 := hid hc1; clear hc1; by_cases c5 : (c4 : Int) = 0
    · obtain ⟨c5c, c5d⟩ : (c4 : Int) ≤ 0 ∧ (0 : Int) ≤ c4 := by omega
      have c5a : ((c4 : Int) == (0)) = true := by simpa using c5
      have c5b : ((c4 : Int) != (0)) = false := by simpa using c5
      have c5h := hid c5; clear c5; go_upto_region 7 with fail
      obtain ⟨xl1, xl2, w1, w2⟩ := tv_pos (ts := xs) (n := w) (by rw [HNc1.out]; have := c2h.out; have := c5h.out; omega); obtain ⟨yl1, yl2, h1, h2⟩ := tv_pos (ts := ys) (n := h) (by rw [HNc2.out]; have := c2h.out; have := c5h.out; omega); have hlx := HLX.out; have hly := HLY.out; have xm1 : 1 ≤ xm ∧ xm ≤ 128 := by omega
      have ym1 : 1 ≤ ym ∧ ym ≤ 128 := by omega
      clear hlx hly; obtain ⟨MM, hMM⟩ : ∃ z : Int, (xm : Int) * ym = z := ⟨_, rfl⟩; obtain ⟨mm1, mm2⟩ : 0 ≤ MM ∧ MM ≤ 16384 := by rw [← hMM]; exact len_mul xm1.2 ym1.2
      have HMM := hid (show (xs.length : Int) * (ys.length : Int) = MM from by rw [← HLX.out, ← HLY.out]; exact hMM); by_cases c6 : (4096 : Int) < MM
      · skip
        go_wp2_with fail
        go_ret
        exact ⟨ret_i (by unfold rzCode; rw [HNc1.out, if_neg (by have := c2h.out; have := c5h.out; omega), HNc2.out, if_neg (by have := c2h.out; have := c5h.out; omega), if_pos (by rw [HMM.out]; omega)]), H1.out.bl⟩
      · skip
        go_wp2_with fail
        refine (rshok_any _ _).mono ?_; rintro e w4 ⟨rfl, hsw⟩; have hsw2 : w3 = w4 := by first | exact hsw | exact hsw.symm
        clear hsw; subst hsw2; obtain ⟨b1, hb1⟩ : ∃ xx', shOk s = xx' := ⟨_, rfl⟩; rw [hb1]; have HNb1 := hid hb1; clear hb1; cases b1; rotate_left
        ·
          go_wp2_with fail
          refine (rshok_any _ _).mono ?_; rintro e w4 ⟨rfl, hsw⟩; have hsw2 : w3 = w4 := by first | exact hsw | exact hsw.symm
          clear hsw; subst hsw2; obtain ⟨b1, hb1⟩ : ∃ xx', shOk s2 = xx' := ⟨_, rfl⟩; rw [hb1]; have HNb2 := hid hb1; clear hb1; cases b1; rotate_left
          ·
            obtain ⟨z1, z2, z3⟩ := H1.out.c3 0 rfl; go_wp2_with fail
            clear z1 z2 z3; refine (rval_any _ _).mono ?_; rintro e w4 ⟨rfl, hsw⟩; have hsw2 : w3 = w4 := by first | exact hsw | exact hsw.symm
            clear hsw; subst hsw2; obtain ⟨b1, hb1⟩ : ∃ xx', valOk mx = xx' := ⟨_, rfl⟩; rw [hb1]; have HNb3 := hid hb1; clear hb1; cases b1; rotate_left
            ·
              go_wp2_with fail
              refine (rval_any _ _).mono ?_; rintro e w4 ⟨rfl, hsw⟩; have hsw2 : w3 = w4 := by first | exact hsw | exact hsw.symm
              clear hsw; subst hsw2; obtain ⟨b1, hb1⟩ : ∃ xx', valOk out = xx' := ⟨_, rfl⟩; rw [hb1]; have HNb4 := hid hb1; clear hb1; cases b1; rotate_left
              ·
                go_upto_region 14 with fail
                obtain ⟨xb, xo, hxa⟩ := HX.out.at (by omega); subst hxa; obtain ⟨yb, yo, hya⟩ := HY.out.at (by omega); subst hya; go_wp2_with fail
                go_loopw [17, 15, 16] (fun i lo hi wr => ∃ j : Nat, j ≤ xm ∧ acOk 0 mx xs j = true ∧ i = .int .i64 j ∧ lo = .int .i64 (acLo mx s xs j) ∧ hi = .int .i64 (acHi mx s xs j) ∧ St B W [.cells B #[.int .i64 w, .int .i64 h, .int .i64 mx] 24] [] wr) (fun i _ _ _ => xm - (intOf i).toNat)
                case atStart => exact ⟨0, by omega, rfl, rfl, rfl, rfl, H1.out⟩
                case round =>
                  obtain ⟨j, hj, hok, rfl, rfl, rfl, hst⟩ := hrel; obtain ⟨u1, rfl⟩ : ∃ u1 : World, u1 = wr := ⟨_, rfl⟩; have H3 := hid hst; clear hst; have HOK := hid hok; clear hok; obtain ⟨LA, hLA⟩ : ∃ z, acLo mx s xs j = z := ⟨_, rfl⟩; obtain ⟨HA, hHA⟩ : ∃ z, acHi mx s xs j = z := ⟨_, rfl⟩; rw [hLA, hHA]; have HLA := hid hLA; have HHA := hid hHA; clear hLA hHA; by_cases hjn : j < xm
                  · skip
                    have hjn' : (j : Int) < xm := by omega
                    obtain ⟨xta, xtn, xtc, e1, e2, e3⟩ := HX.out.row (i := j) hjn; have HE1x := hid e1; have HE2x := hid e2; obtain ⟨p, hp⟩ : ∃ p, xs.getD j (0, []) = p := ⟨_, rfl⟩; obtain ⟨xk, ws⟩ := p; rw [hp] at e3 HE1x; simp only at e3 HE1x; have HSLx := hid e3; have HWLx := hid e3.len; have xtnm : (xtn : Int) ≤ 9223372036854775807 := by have := e3.nc; have := e3.cap; omega
                    have HPx := hid hp; clear e1 e2 e3 hp; go_upto_region 17 with fail
                    have H4 := hid H3.out.drew; refine wp_region_held_drew (S := (fun w' => w'.cell? ⟨B, 0, none⟩ = some (.int .i64 w) ∧ w'.cell? ⟨B, 1, none⟩ = some (.int .i64 h) ∧ w'.cell? ⟨B, 2, none⟩ = some (.int .i64 mx) ∧ w'.cell? ⟨xb, xo + j * 2 + 1, none⟩ = some (.slice xta xtn xtc))) (by kernel_rfl) ⟨H4.out.cell 0 rfl 0 rfl, H4.out.cell 0 rfl 1 rfl, H4.out.cell 0 rfl 2 rfl, (H4.out.oldCell HE2x.out)⟩ (fun hHeld => ?_); generalize u1.drew = k1 at *; refine wpAnyH_take (i := 0) (oi := _) (v := ?_) rfl (by kernel_rfl) (by kernel_rfl) (by kernel_rfl) (fun _ _ _ h => h) (Or.inl ⟨by rfl, ?_⟩) (by assumption) ?_
                    rotate_left
                    focus (intro wS hSw; (try dsimp only at hSw); go_simp; (try with_reducible rfl))
                    try simp only [pz]
                    refine wpAnyH_take (i := 1) (oi := _) (v := ?_) rfl (by kernel_rfl) (by kernel_rfl) (by kernel_rfl) (fun _ _ _ h => h) (Or.inl ⟨by rfl, ?_⟩) (by assumption) ?_
                    rotate_left
                    focus (intro wS hSw; (try dsimp only at hSw); go_simp; (try with_reducible rfl))
                    try simp only [pz]
                    refine wpAnyH_take (i := 2) (oi := _) (v := ?_) rfl (by kernel_rfl) (by kernel_rfl) (by kernel_rfl) (fun _ _ _ h => h) (Or.inl ⟨by rfl, ?_⟩) (by assumption) ?_
                    rotate_left
                    focus (intro wS hSw; (try dsimp only at hSw); go_simp; (try with_reducible rfl))
                    try simp only [pz]
                    refine wpAnyH_take (i := 3) (oi := _) (v := ?_) rfl (by kernel_rfl) (by kernel_rfl) (by kernel_rfl) (fun _ _ _ h => h) (Or.inl ⟨by rfl, ?_⟩) (by assumption) ?_
                    rotate_left
                    focus (intro wS hSw; (try dsimp only at hSw); go_simp; (try with_reducible rfl))
                    try simp only [pz]
                    refine wpAnyH_take (i := 4) (oi := _) (v := ?_) rfl (by kernel_rfl) (by kernel_rfl) (by kernel_rfl) (fun _ _ _ h => h) (Or.inl ⟨by rfl, ?_⟩) (by assumption) ?_
                    rotate_left
                    focus (intro wS hSw; (try dsimp only at hSw); go_simp; (try with_reducible rfl))
                    try simp only [pz]
                    refine wpAnyH_take (i := 5) (oi := _) (v := ?_) rfl (by kernel_rfl) (by kernel_rfl) (by kernel_rfl) (fun _ _ _ h => h) (Or.inl ⟨by rfl, ?_⟩) (by assumption) ?_
                    rotate_left
                    focus (intro wS hSw; (try dsimp only at hSw); go_simp; (try with_reducible rfl))
                    try simp only [pz]
                    refine wpAnyH_take (i := 6) (oi := _) (v := ?_) rfl (by kernel_rfl) (by kernel_rfl) (by kernel_rfl) (fun _ _ _ h => h) (Or.inl ⟨by rfl, ?_⟩) (by assumption) ?_
                    rotate_left
                    focus (intro wS hSw; (try dsimp only at hSw); go_simp; (try with_reducible rfl))
                    try simp only [pz]
                    refine rdy 7 fun K hK => ?_
                    go_simp
                    go_at_call 65
                    refine (rbounds_any _ _ _ _ _ _ _ (H4.out.old HSLx.out)).mono ?_; rintro e w3 ⟨rfl, hb⟩; have H5 := hid (H4.out.call hb); clear hb; obtain ⟨x1, hx1⟩ : ∃ xx', bdLo ws 0 mx = xx' := ⟨_, rfl⟩; rw [hx1]; have HNx1 := hid hx1; clear hx1; obtain ⟨x2, hx1⟩ : ∃ xx', bdHi ws 0 mx = xx' := ⟨_, rfl⟩; rw [hx1]; have HNx2 := hid hx1; clear hx1; obtain ⟨b1, hb1⟩ : ∃ xx', bdOk ws 0 mx = xx' := ⟨_, rfl⟩; rw [hb1]; have HNb5 := hid hb1; clear hb1; refine hK.out _ _ (by (try dsimp only); exact ⟨H5.out.cell 0 rfl 0 rfl, H5.out.cell 0 rfl 1 rfl, H5.out.cell 0 rfl 2 rfl, (H5.out.oldCell HE2x.out)⟩) ?_; clear hK K hHeld; intro hHeld; try simp only [pz]
                    refine wpAnyH_take (i := 8) (oi := _) (v := ?_) rfl (by kernel_rfl) (by kernel_rfl) (by kernel_rfl) (fun _ _ _ h => h) (Or.inl ⟨by rfl, ?_⟩) (by assumption) ?_
                    rotate_left
                    focus (intro wS hSw; (try dsimp only at hSw); go_simp; (try with_reducible rfl))
                    try simp only [pz]
                    refine wpAnyH_take (i := 9) (oi := _) (v := ?_) rfl (by kernel_rfl) (by kernel_rfl) (by kernel_rfl) (fun _ _ _ h => h) (Or.inl ⟨by rfl, ?_⟩) (by assumption) ?_
                    rotate_left
                    focus (intro wS hSw; (try dsimp only at hSw); go_simp; (try with_reducible rfl))
                    try simp only [pz]
                    refine wpAnyH_take (i := 10) (oi := _) (v := ?_) rfl (by kernel_rfl) (by kernel_rfl) (by kernel_rfl) (fun _ _ _ h => h) (Or.inl ⟨by rfl, ?_⟩) (by assumption) ?_
                    rotate_left
                    focus (intro wS hSw; (try dsimp only at hSw); go_simp; (try with_reducible rfl))
                    try simp only [pz]
                    refine wpAnyH_take (i := 11) (oi := _) (v := ?_) rfl (by kernel_rfl) (by kernel_rfl) (by kernel_rfl) (fun _ _ _ h => h) (Or.inl ⟨by rfl, ?_⟩) (by assumption) ?_
                    rotate_left
                    focus (intro wS hSw; (try dsimp only at hSw); go_simp; (try with_reducible rfl))
                    try simp only [pz]
                    refine wpAnyH_take (i := 12) (oi := _) (v := ?_) rfl (by kernel_rfl) (by kernel_rfl) (by kernel_rfl) (fun _ _ _ h => h) (Or.inl ⟨by rfl, ?_⟩) (by assumption) ?_
                    rotate_left
                    focus (intro wS hSw; (try dsimp only at hSw); go_simp; (try with_reducible rfl))
                    try simp only [pz]
                    refine wpAnyH_take (i := 13) (oi := _) (v := ?_) rfl (by kernel_rfl) (by kernel_rfl) (by kernel_rfl) (fun _ _ _ h => h) (Or.inl ⟨by rfl, ?_⟩) (by assumption) ?_
                    rotate_left
                    focus (intro wS hSw; (try dsimp only at hSw); go_simp; (try with_reducible rfl))
                    try simp only [pz]
                    refine wpAnyH_take (i := 14) (oi := _) (v := ?_) rfl (by kernel_rfl) (by kernel_rfl) (by kernel_rfl) (fun _ _ _ h => h) (Or.inl ⟨by rfl, ?_⟩) (by assumption) ?_
                    rotate_left
                    focus (intro wS hSw; (try dsimp only at hSw); go_simp; (try with_reducible rfl))
                    try simp only [pz]
                    refine wpAnyH_done (by kernel_rfl) ?_ _; try clear hHeld
                    cases b1; rotate_left
                    ·
                      go_wp2_with fail
                      refine (rspan_any _ _ _ _).mono ?_; rintro e w4 ⟨rfl, hsw⟩; have hsw2 : w3 = w4 := by first | exact hsw | exact hsw.symm
                      clear hsw; subst hsw2; obtain ⟨s1, hs1⟩ : ∃ xx', shV x1 s = xx' := ⟨_, rfl⟩; rw [hs1]; have HNs1 := hid hs1; clear hs1; obtain ⟨s3, hs1⟩ : ∃ xx', shV x2 s = xx' := ⟨_, rfl⟩; rw [hs1]; have HNs2 := hid hs1; clear hs1; by_cases hN : j = 0
                      · skip
                        subst hN; go_wp2_with fail
                        go_roundw
                        case rel => exact ⟨0 + 1, by omega, acOk_next HOK.out (by rw [HPx.out]; exact HNb5.out), by go_num, by rw [acLo_first HPx.out (show rzLo mx s (xk, ws) = s1 from by show shV (bLo ws 0 mx ws.length) s = s1; rw [← (bdOk_yes HNb5.out).1, HNx1.out, HNs1.out])], by rw [acHi_first HPx.out (show rzHi mx s (xk, ws) = s3 from by show shV (bHi ws 0 mx ws.length) s = s3; rw [← (bdOk_yes HNb5.out).2, HNx2.out, HNs2.out])], H5.out.pick [0] rfl (by decide)⟩
                        case measure => first | (simp [intOf]; omega) | (simp [intOf]; done)
                      · skip
                        have hN0 : ((j : Int) == 0) = false := by simp; omega
                        have HJ0 := hid hN; clear hN; obtain ⟨m1, hm1⟩ : ∃ zz : Int, (if s1 < LA then s1 else LA) = zz := ⟨_, rfl⟩; obtain ⟨m1, hm2⟩ : ∃ zz : Int, (if HA < s3 then s3 else HA) = zz := ⟨_, rfl⟩; go_wp2_with fail
                        have HNm1 := hid hm1; clear hm1; have HNm2 := hid hm2; clear hm2
                        go_roundw
                        case rel => exact ⟨j + 1, by omega, acOk_next HOK.out (by rw [HPx.out]; exact HNb5.out), by go_num, by rw [acLo_next HPx.out (show rzLo mx s (xk, ws) = s1 from by show shV (bLo ws 0 mx ws.length) s = s1; rw [← (bdOk_yes HNb5.out).1, HNx1.out, HNs1.out]) HLA.out HJ0.out, HNm1.out], by rw [acHi_next HPx.out (show rzHi mx s (xk, ws) = s3 from by show shV (bHi ws 0 mx ws.length) s = s3; rw [← (bdOk_yes HNb5.out).2, HNx2.out, HNs2.out]) HHA.out HJ0.out, HNm2.out], H5.out.pick [0] rfl (by decide)⟩
                        case measure => first | (simp [intOf]; omega) | (simp [intOf]; done)
                    go_wp2_with fail
                    go_ret
                    exact ⟨ret_i (by unfold rzCode; rw [HNc1.out, if_neg (by have := c2h.out; have := c5h.out; omega), HNc2.out, if_neg (by have := c2h.out; have := c5h.out; omega), if_neg (by rw [HMM.out]; omega), if_neg (fun hc => hc ⟨HNb1.out, HNb2.out⟩), if_neg (fun hc => hc ⟨HNb3.out, HNb4.out⟩), show acCode mx s xs ys = 11 from by unfold acCode; rw [if_pos (acOk_fail (by rw [← HLX.out]; exact hjn) (by rw [HPx.out]; exact HNb5.out))]]), H5.out.bl⟩
                  · skip
                    have hjn' : ¬ ((j : Int) < xm) := by omega
                    have hxe : xs.length = j := by have := HLX.out; omega
                    have HAO := hid (show acOk 0 mx xs xs.length = true from by rw [hxe]; exact HOK.out); have HLE := hid (show acLo mx s xs xs.length = LA from by rw [hxe]; exact HLA.out); have HHE := hid (show acHi mx s xs xs.length = HA from by rw [hxe]; exact HHA.out); clear hxe; go_wp2_with fail
                    go_loopw [21] (fun i wr => ∃ q : Nat, q ≤ ym ∧ acOk LA HA ys q = true ∧ i = .int .i64 q ∧ St B W [.cells B #[.int .i64 w, .int .i64 h, .int .i64 mx] 24] [] wr) (fun i _ => ym - (intOf i).toNat)
                    case atStart => exact ⟨0, by omega, rfl, rfl, H3.out.pick [0] rfl (by decide)⟩
                    case round =>
                      obtain ⟨q, hq, hoq, rfl, hst⟩ := hrel; obtain ⟨u1, rfl⟩ : ∃ u1 : World, u1 = wr := ⟨_, rfl⟩; have H3 := hid hst; clear hst; have HOQ := hid hoq; clear hoq; by_cases hqn : q < ym
                      · skip
                        have hqn' : (q : Int) < ym := by omega
                        obtain ⟨yta, ytn, ytc, e1, e2, e3⟩ := HY.out.row (i := q) hqn; have HE1y := hid e1; have HE2y := hid e2; obtain ⟨p, hp⟩ : ∃ p, ys.getD q (0, []) = p := ⟨_, rfl⟩; obtain ⟨yk, us⟩ := p; rw [hp] at e3 HE1y; simp only at e3 HE1y; have HSLy := hid e3; have HWLy := hid e3.len; have ytnm : (ytn : Int) ≤ 9223372036854775807 := by have := e3.nc; have := e3.cap; omega
                        have HPy := hid hp; clear e1 e2 e3 hp; have f1y := H3.out.oldCell HE1y.out; have f2y := H3.out.oldCell HE2y.out; go_wp2_with fail
                        refine (rbounds_any _ _ _ _ _ _ _ (H3.out.old HSLy.out)).mono ?_; rintro e w3 ⟨rfl, hb⟩; have H4 := hid (H3.out.call hb); clear hb; obtain ⟨x1, hx1⟩ : ∃ xx', bdLo us LA HA = xx' := ⟨_, rfl⟩; rw [hx1]; have HNx1 := hid hx1; clear hx1; obtain ⟨x1, hx1⟩ : ∃ xx', bdHi us LA HA = xx' := ⟨_, rfl⟩; rw [hx1]; have HNx1 := hid hx1; clear hx1; obtain ⟨b1, hb1⟩ : ∃ xx', bdOk us LA HA = xx' := ⟨_, rfl⟩; rw [hb1]; have HNb5 := hid hb1; clear hb1; cases b1; rotate_left
                        ·
                          go_wp2_with fail
                          go_roundw
                          case rel => exact ⟨q + 1, by omega, acOk_next HOQ.out (by rw [HPy.out]; exact HNb5.out), by go_num, H4.out.pick [0] rfl (by decide)⟩
                          case measure => first | (simp [intOf]; omega) | (simp [intOf]; done)
                        go_wp2_with fail
                        go_ret
                        exact ⟨ret_i (by unfold rzCode; rw [HNc1.out, if_neg (by have := c2h.out; have := c5h.out; omega), HNc2.out, if_neg (by have := c2h.out; have := c5h.out; omega), if_neg (by rw [HMM.out]; omega), if_neg (fun hc => hc ⟨HNb1.out, HNb2.out⟩), if_neg (fun hc => hc ⟨HNb3.out, HNb4.out⟩), show acCode mx s xs ys = 11 from by unfold acCode; rw [if_neg (by rw [HAO.out]; simp), HLE.out, HHE.out, if_pos (acOk_fail (by rw [← HLY.out]; exact hqn) (by rw [HPy.out]; exact HNb5.out))]]), H4.out.bl⟩
                      · skip
                        have hqn' : ¬ ((q : Int) < ym) := by omega
                        have HBO := hid (show acOk LA HA ys ys.length = true from by rw [← HLY.out, show ym = q by omega]; exact HOQ.out); go_wp2_with fail
                        go_ret
                        exact ⟨ret_i (by unfold rzCode; rw [HNc1.out, if_neg (by have := c2h.out; have := c5h.out; omega), HNc2.out, if_neg (by have := c2h.out; have := c5h.out; omega), if_neg (by rw [HMM.out]; omega), if_neg (fun hc => hc ⟨HNb1.out, HNb2.out⟩), if_neg (fun hc => hc ⟨HNb3.out, HNb4.out⟩), show acCode mx s xs ys = 0 from by unfold acCode; rw [if_neg (by rw [HAO.out]; simp), HLE.out, HHE.out, if_neg (by rw [HBO.out]; simp)]]), H3.out.bl⟩
              go_wp2_with fail
              go_ret
              exact ⟨ret_i (by unfold rzCode; rw [HNc1.out, if_neg (by have := c2h.out; have := c5h.out; omega), HNc2.out, if_neg (by have := c2h.out; have := c5h.out; omega), if_neg (by rw [HMM.out]; omega), if_neg (fun hc => hc ⟨HNb1.out, HNb2.out⟩), if_pos (by intro hc; have h := hc.2; rw [HNb4.out] at h; cases h)]), H1.out.bl⟩
            go_wp2_with fail
            go_ret
            exact ⟨ret_i (by unfold rzCode; rw [HNc1.out, if_neg (by have := c2h.out; have := c5h.out; omega), HNc2.out, if_neg (by have := c2h.out; have := c5h.out; omega), if_neg (by rw [HMM.out]; omega), if_neg (fun hc => hc ⟨HNb1.out, HNb2.out⟩), if_pos (by intro hc; have h := hc.1; rw [HNb3.out] at h; cases h)]), H1.out.bl⟩
          go_wp2_with fail
          go_ret
          exact ⟨ret_i (by unfold rzCode; rw [HNc1.out, if_neg (by have := c2h.out; have := c5h.out; omega), HNc2.out, if_neg (by have := c2h.out; have := c5h.out; omega), if_neg (by rw [HMM.out]; omega), if_pos (by intro hc; have h := hc.2; rw [HNb2.out] at h; cases h)]), H1.out.bl⟩
        go_wp2_with fail
        go_ret
        exact ⟨ret_i (by unfold rzCode; rw [HNc1.out, if_neg (by have := c2h.out; have := c5h.out; omega), HNc2.out, if_neg (by have := c2h.out; have := c5h.out; omega), if_neg (by rw [HMM.out]; omega), if_pos (by intro hc; have h := hc.1; rw [HNb1.out] at h; cases h)]), H1.out.bl⟩
    · have c5a : ((c4 : Int) == (0)) = false := by simpa using c5
      have c5b : ((c4 : Int) != (0)) = true := by simpa using c5
      have c5h := hid c5; clear c5; go_wp2_with fail
      go_ret
      exact ⟨ret_i (by unfold rzCode; rw [HNc1.out, if_neg (by have := c2h.out; have := c5h.out; omega), HNc2.out, if_pos (by have := c2h.out; have := c5h.out; omega)]), H1.out.bl⟩
  · have c2a : ((c1 : Int) == (0)) = false := by simpa using c2
    have c2b : ((c1 : Int) != (0)) = true := by simpa using c2
    have c2h := hid c2; clear c2; go_wp2_with fail
    go_ret
    exact ⟨ret_i (by unfold rzCode; rw [HNc1.out, if_pos (by have := c2h.out; omega)]), H2.out.bl⟩
end Go.Proofs.Yteejjnhlfgjlaaa
