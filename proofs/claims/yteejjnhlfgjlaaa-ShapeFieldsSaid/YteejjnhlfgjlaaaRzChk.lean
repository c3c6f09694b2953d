/-
 Contracts: the errors of tables for resizing, in the program and in the reference.
-/
import Derived.Test.YteejjnhlfgjlaaaRzPlain
import Derived.Test.YteejjnhlfgjlaaaKJ
import Derived.Test.YteejjnhlfgjlaaaKN
namespace Go.Proofs.Yteejjnhlfgjlaaa
open Go.RowKit
attribute [local go_sem ↓] Go.wp_at_zero Go.wp_at_succ
set_option linter.unusedVariables false
set_option linter.unusedSimpArgs false

theorem acLo_next {mx s : Int} {x : Tbl} {j : Nat} {p : Int × List Int} {v L : Int} (hp : x.getD j (0, []) = p) (hv : rzLo mx s p = v) (hL : acLo mx s x j = L) (hj : j ≠ 0) : acLo mx s x (j + 1) = if v < L then v else L := by
 simp only [acLo]; rw [if_neg hj, hp, hv, hL]; split <;> split <;> omega
theorem acHi_next {mx s : Int} {x : Tbl} {j : Nat} {p : Int × List Int} {v L : Int} (hp : x.getD j (0, []) = p) (hv : rzHi mx s p = v) (hL : acHi mx s x j = L) (hj : j ≠ 0) : acHi mx s x (j + 1) = if L < v then v else L := by
 simp only [acHi]; rw [if_neg hj, hp, hv, hL]; split <;> split <;> omega
theorem acLo_first {mx s : Int} {x : Tbl} {p : Int × List Int} {v : Int} (hp : x.getD 0 (0, []) = p) (hv : rzLo mx s p = v) : acLo mx s x (0 + 1) = v := by
 simp only [acLo]; rw [if_pos trivial, hp, hv]
theorem acHi_first {mx s : Int} {x : Tbl} {p : Int × List Int} {v : Int} (hp : x.getD 0 (0, []) = p) (hv : rzHi mx s p = v) : acHi mx s x (0 + 1) = v := by
 simp only [acHi]; rw [if_pos trivial, hp, hv]
theorem tv_pos {ts : Tbl} {n : Int} (h : tvCode ts n = 0) : 1 ≤ ts.length ∧ ts.length ≤ 128 ∧ 1 ≤ n ∧ n ≤ 128 := by
 unfold tvCode at h; split at h <;> omega
set_option maxRecDepth 100000 in
set_option maxHeartbeats 6400000 in
theorem rzacc_any (xa : Option Addr) (xm xc : Nat) (xs : Tbl) (ya : Option Addr) (ym yc : Nat) (ys : Tbl) (mx s : Int) (W : World) (hx : Tps W xa xm xc xs) (hy : Tps W ya ym yc ys) (x0 : 1 ≤ xm) (y0 : 1 ≤ ym) :
    Calls Try.prog 57 #[.slice xa xm xc, .slice ya ym yc, .int .i64 mx, .int .i64 s] W fun e w' => e = .returned (.int .i64 (acCode mx s xs ys)) ∧ Below W.heap.size W w' := by
  have HLX := hid hx.len
  have HLY := hid hy.len
  have xmx : (xm : Int) ≤ 9223372036854775807 := by have := hx.nc; have := hx.cap; omega
  have ymx : (ym : Int) ≤ 9223372036854775807 := by have := hy.nc; have := hy.cap; omega
  obtain ⟨xb, xo, hxa⟩ := hx.at (by omega)
  subst hxa
  obtain ⟨yb, yo, hya⟩ := hy.at (by omega)
  subst hya
  have HX := hid hx
  have HY := hid hy
  clear hx hy
  obtain ⟨B, hB⟩ : ∃ B, W.heap.size = B := ⟨_, rfl⟩
  have HI0 := hid (St.init hB)
  go_enter Try.func57, Try.ntmps57
  go_wp2_with fail
  go_loopw [23, 9, 10] (fun i lo hi wr => ∃ j : Nat, j ≤ xm ∧ acOk 0 mx xs j = true ∧ i = .int .i64 j ∧ lo = .int .i64 (acLo mx s xs j) ∧ hi = .int .i64 (acHi mx s xs j) ∧ St B W [] [] wr) (fun i _ _ _ => xm - (intOf i).toNat)
  case atStart => exact ⟨0, by omega, rfl, rfl, rfl, rfl, HI0.out⟩
  case round =>
    obtain ⟨j, hj, hok, rfl, rfl, rfl, hst⟩ := hrel
    obtain ⟨u1, rfl⟩ : ∃ u1 : World, u1 = wr := ⟨_, rfl⟩
    have H2 := hid hst
    clear hst
    have HOK := hid hok
    clear hok
    obtain ⟨LA, hLA⟩ : ∃ z, acLo mx s xs j = z := ⟨_, rfl⟩
    obtain ⟨HA, hHA⟩ : ∃ z, acHi mx s xs j = z := ⟨_, rfl⟩
    rw [hLA, hHA]
    have HLA := hid hLA
    have HHA := hid hHA
    clear hLA hHA
    by_cases hjn : j < xm
    · skip
      have hjn' : (j : Int) < xm := by omega
      obtain ⟨xta, xtn, xtc, e1, e2, e3⟩ := HX.out.row (i := j) hjn
      have HE1x := hid e1
      have HE2x := hid e2
      obtain ⟨p, hp⟩ : ∃ p, xs.getD j (0, []) = p := ⟨_, rfl⟩
      obtain ⟨xk, ws⟩ := p
      rw [hp] at e3 HE1x
      simp only at e3 HE1x
      have HSLx := hid e3
      have HWLx := hid e3.len
      have xtnm : (xtn : Int) ≤ 9223372036854775807 := by have := e3.nc; have := e3.cap; omega
      have HPx := hid hp
      clear e1 e2 e3 hp
      have f1x := H2.out.oldCell HE1x.out
      have f2x := H2.out.oldCell HE2x.out
      obtain ⟨D3, hD3⟩ : ∃ D, u1.heap.size = D := ⟨_, rfl⟩
      go_upto_region 5 with fail
      have H4 := hid (H2.out.alloc #[.int .i64 xk, .slice xta xtn xtc] 55 hD3)
      first | refine gen_code H4.out ?_ | refine gen_list H4.out ?_ | refine gen_calls H4.out ?_
      intro w5 hG
      clear H4
      have H4 := hid hG
      clear hG
      clear hD3
      have z6 := H4.out.cell 0 rfl 0 rfl
      have z7 := H4.out.cell 0 rfl 1 rfl
      go_wp2_with fail
      clear z6 z7
      refine (fbounds_any _ _ _ _ _ _ _ (H4.out.old HSLx.out)).mono ?_
      rintro e w8 ⟨rfl, hb⟩
      have H9 := hid (H4.out.call hb)
      clear hb
      obtain ⟨x10, hx10⟩ : ∃ xx', bdLo ws 0 mx = xx' := ⟨_, rfl⟩
      rw [hx10]
      have HNx10 := hid hx10
      clear hx10
      obtain ⟨x11, hx11⟩ : ∃ xx', bdHi ws 0 mx = xx' := ⟨_, rfl⟩
      rw [hx11]
      have HNx11 := hid hx11
      clear hx11
      obtain ⟨b12, hb12⟩ : ∃ xx', bdOk ws 0 mx = xx' := ⟨_, rfl⟩
      rw [hb12]
      have HNb12 := hid hb12
      clear hb12
      cases b12 with
      | true =>
        go_wp2_with fail
        refine (fspan_any _ _ _ _).mono ?_
        rintro e w13 ⟨rfl, hsw⟩
        have hsw2 : w8 = w13 := by first | exact hsw | exact hsw.symm
        clear hsw
        subst hsw2
        obtain ⟨s14, hs14⟩ : ∃ xx', shV x10 s = xx' := ⟨_, rfl⟩
        rw [hs14]
        have HNs14 := hid hs14
        clear hs14
        obtain ⟨s15, hs15⟩ : ∃ xx', shV x11 s = xx' := ⟨_, rfl⟩
        rw [hs15]
        have HNs15 := hid hs15
        clear hs15
        by_cases hN : j = 0
        · skip
          subst hN
          go_wp2_with fail
          go_roundw
          case rel => exact ⟨0 + 1, by omega, acOk_next HOK.out (by rw [HPx.out]; exact HNb12.out), by go_num, by rw [acLo_first HPx.out (show rzLo mx s (xk, ws) = s14 from by show shV (bLo ws 0 mx ws.length) s = s14; rw [← (bdOk_yes HNb12.out).1, HNx10.out, HNs14.out])], by rw [acHi_first HPx.out (show rzHi mx s (xk, ws) = s15 from by show shV (bHi ws 0 mx ws.length) s = s15; rw [← (bdOk_yes HNb12.out).2, HNx11.out, HNs15.out])], H9.out.pick [] rfl (by decide)⟩
          case measure => first | (simp [intOf]; omega) | (simp [intOf]; done)
        · skip
          have hN0 : ((j : Int) == 0) = false := by simp; omega
          have HJ0 := hid hN
          clear hN
          obtain ⟨m16, hm16⟩ : ∃ zz : Int, (if s14 < LA then s14 else LA) = zz := ⟨_, rfl⟩
          obtain ⟨m17, hm17⟩ : ∃ zz : Int, (if HA < s15 then s15 else HA) = zz := ⟨_, rfl⟩
          go_wp2_with fail
          have HNm16 := hid hm16
          clear hm16
          have HNm17 := hid hm17
          clear hm17
          go_roundw
          case rel => exact ⟨j + 1, by omega, acOk_next HOK.out (by rw [HPx.out]; exact HNb12.out), by go_num, by rw [acLo_next HPx.out (show rzLo mx s (xk, ws) = s14 from by show shV (bLo ws 0 mx ws.length) s = s14; rw [← (bdOk_yes HNb12.out).1, HNx10.out, HNs14.out]) HLA.out HJ0.out, HNm16.out], by rw [acHi_next HPx.out (show rzHi mx s (xk, ws) = s15 from by show shV (bHi ws 0 mx ws.length) s = s15; rw [← (bdOk_yes HNb12.out).2, HNx11.out, HNs15.out]) HHA.out HJ0.out, HNm17.out], H9.out.pick [] rfl (by decide)⟩
          case measure => first | (simp [intOf]; omega) | (simp [intOf]; done)
      | false =>
        go_wp2_with fail
        go_ret
        exact ⟨ret_i (by unfold acCode; rw [if_pos (acOk_fail (by rw [← HLX.out]; exact hjn) (by rw [HPx.out]; exact HNb12.out))]), by first | exact H9.out.below | exact H9.out.below'⟩
    · skip
      have hjn' : ¬ ((j : Int) < xm) := by omega
      have hxe : xs.length = j := by have := HLX.out; omega
      have HAO := hid (show acOk 0 mx xs xs.length = true from by rw [hxe]; exact HOK.out)
      have HLE := hid (show acLo mx s xs xs.length = LA from by rw [hxe]; exact HLA.out)
      have HHE := hid (show acHi mx s xs xs.length = HA from by rw [hxe]; exact HHA.out)
      clear hxe
      go_wp2_with fail
      go_loopw [58] (fun i wr => ∃ q : Nat, q ≤ ym ∧ acOk LA HA ys q = true ∧ i = .int .i64 q ∧ St B W [] [] wr) (fun i _ => ym - (intOf i).toNat)
      case atStart => exact ⟨0, by omega, rfl, rfl, H2.out.pick [] rfl (by decide)⟩
      case round =>
        obtain ⟨q, hq, hoq, rfl, hst⟩ := hrel
        obtain ⟨u18, rfl⟩ : ∃ u18 : World, u18 = wr := ⟨_, rfl⟩
        have H19 := hid hst
        clear hst
        have HOQ := hid hoq
        clear hoq
        by_cases hqn : q < ym
        · skip
          have hqn' : (q : Int) < ym := by omega
          obtain ⟨yta, ytn, ytc, e1, e2, e3⟩ := HY.out.row (i := q) hqn
          have HE1y := hid e1
          have HE2y := hid e2
          obtain ⟨p, hp⟩ : ∃ p, ys.getD q (0, []) = p := ⟨_, rfl⟩
          obtain ⟨yk, us⟩ := p
          rw [hp] at e3 HE1y
          simp only at e3 HE1y
          have HSLy := hid e3
          have HWLy := hid e3.len
          have ytnm : (ytn : Int) ≤ 9223372036854775807 := by have := e3.nc; have := e3.cap; omega
          have HPy := hid hp
          clear e1 e2 e3 hp
          have f1y := H19.out.oldCell HE1y.out
          have f2y := H19.out.oldCell HE2y.out
          obtain ⟨D20, hD20⟩ : ∃ D, u18.heap.size = D := ⟨_, rfl⟩
          go_upto_region 16 with fail
          have H21 := hid (H19.out.alloc #[.int .i64 yk, .slice yta ytn ytc] 55 hD20)
          first | refine gen_code H21.out ?_ | refine gen_list H21.out ?_ | refine gen_calls H21.out ?_
          intro w22 hG
          clear H21
          have H21 := hid hG
          clear hG
          clear hD20
          have z23 := H21.out.cell 0 rfl 0 rfl
          have z24 := H21.out.cell 0 rfl 1 rfl
          go_wp2_with fail
          clear z23 z24
          refine (fbounds_any _ _ _ _ _ _ _ (H21.out.old HSLy.out)).mono ?_
          rintro e w25 ⟨rfl, hb⟩
          have H26 := hid (H21.out.call hb)
          clear hb
          obtain ⟨x27, hx27⟩ : ∃ xx', bdLo us LA HA = xx' := ⟨_, rfl⟩
          rw [hx27]
          have HNx27 := hid hx27
          clear hx27
          obtain ⟨x28, hx28⟩ : ∃ xx', bdHi us LA HA = xx' := ⟨_, rfl⟩
          rw [hx28]
          have HNx28 := hid hx28
          clear hx28
          obtain ⟨b29, hb29⟩ : ∃ xx', bdOk us LA HA = xx' := ⟨_, rfl⟩
          rw [hb29]
          have HNb29 := hid hb29
          clear hb29
          cases b29 with
          | true =>
            go_wp2_with fail
            go_roundw
            case rel => exact ⟨q + 1, by omega, acOk_next HOQ.out (by rw [HPy.out]; exact HNb29.out), by go_num, H26.out.pick [] rfl (by decide)⟩
            case measure => first | (simp [intOf]; omega) | (simp [intOf]; done)
          | false =>
            go_wp2_with fail
            go_ret
            exact ⟨ret_i (by unfold acCode; rw [if_neg (by rw [HAO.out]; simp), HLE.out, HHE.out, if_pos (acOk_fail (by rw [← HLY.out]; exact hqn) (by rw [HPy.out]; exact HNb29.out))]), by first | exact H26.out.below | exact H26.out.below'⟩
        · skip
          have hqn' : ¬ ((q : Int) < ym) := by omega
          have HBO := hid (show acOk LA HA ys ys.length = true from by rw [← HLY.out, show ym = q by omega]; exact HOQ.out)
          go_wp2_with fail
          go_ret
          exact ⟨ret_i (by unfold acCode; rw [if_neg (by rw [HAO.out]; simp), HLE.out, HHE.out, if_neg (by rw [HBO.out]; simp)]), by first | exact H19.out.below | exact H19.out.below'⟩

theorem mul_no {a b : Nat} (h : mOk (a : Int) (b : Int) 4096 = false) : 4096 < (a : Int) * (b : Int) := by
 rcases Int.lt_or_le 4096 ((a : Int) * (b : Int)) with hc | hc
 ·
  exact hc
 ·
  exact absurd (show (0 : Int) ≤ a ∧ (0 : Int) ≤ b ∧ (0 : Int) ≤ 4096 ∧ (a : Int) * b ≤ 4096 from ⟨by omega, by omega, by omega, hc⟩) (of_decide_eq_false h)
theorem mul_yes {a b : Nat} (h : mOk (a : Int) (b : Int) 4096 = true) : ¬ 4096 < (a : Int) * (b : Int) := by
 have h' := (of_decide_eq_true h).2.2.2
 omega

set_option maxRecDepth 100000 in
set_option maxHeartbeats 6400000 in
theorem rzcheck_any (w h mx : Int) (xa : Option Addr) (xm xc : Nat) (xs : Tbl) (ya : Option Addr) (ym yc : Nat) (ys : Tbl) (s s2 out : Int) (W : World) (hx : Tps W xa xm xc xs) (hy : Tps W ya ym yc ys) :
    Calls Try.prog 42 #[.agg #[.int .i64 w, .int .i64 h, .int .i64 mx], .slice xa xm xc, .slice ya ym yc, .int .i64 s, .int .i64 s2, .int .i64 out] W fun e w' => e = .returned (.int .i64 (rzCode w h mx xs ys s s2 out)) ∧ Below W.heap.size W w' := by
  have HLX := hid hx.len
  have HLY := hid hy.len
  have xmx : (xm : Int) ≤ 9223372036854775807 := by have := hx.nc; have := hx.cap; omega
  have ymx : (ym : Int) ≤ 9223372036854775807 := by have := hy.nc; have := hy.cap; omega
  have HX := hid hx
  have HY := hid hy
  clear hx hy
  obtain ⟨B, hB⟩ : ∃ B, W.heap.size = B := ⟨_, rfl⟩
  have HI0 := hid (St.init hB)
  go_enter Try.func42, Try.ntmps42
  go_upto_region 1 with fail
  have H30 := hid (HI0.out.alloc #[.int .i64 w, .int .i64 h, .int .i64 mx] 24 hB)
  first | refine gen_code H30.out ?_ | refine gen_list H30.out ?_ | refine gen_calls H30.out ?_
  intro w31 hG
  clear H30
  have H30 := hid hG
  clear hG
  have z32 := H30.out.cell 0 rfl 0 rfl
  have z33 := H30.out.cell 0 rfl 1 rfl
  have z34 := H30.out.cell 0 rfl 2 rfl
  go_wp2_with fail
  clear z32 z33 z34
  refine (tvalid_any _ _ _ _ _ _ (H30.out.oldTps HX.out)).mono ?_
  rintro e w35 ⟨rfl, hb⟩
  have H36 := hid (H30.out.call hb)
  clear hb
  obtain ⟨c37, hc37⟩ : ∃ xx', tvCode xs w = xx' := ⟨_, rfl⟩
  rw [hc37]
  have HNc37 := hid hc37
  clear hc37
  by_cases c38 : (c37 : Int) = 0
  · obtain ⟨c38c, c38d⟩ : (c37 : Int) ≤ 0 ∧ (0 : Int) ≤ c37 := by omega
    have c38a : ((c37 : Int) == (0)) = true := by simpa using c38
    have c38b : ((c37 : Int) != (0)) = false := by simpa using c38
    have c38h := hid c38
    clear c38
    have z39 := H36.out.cell 0 rfl 0 rfl
    have z40 := H36.out.cell 0 rfl 1 rfl
    have z41 := H36.out.cell 0 rfl 2 rfl
    go_wp2_with fail
    clear z39 z40 z41
    refine (tvalid_any _ _ _ _ _ _ (H36.out.oldTps HY.out)).mono ?_
    rintro e w42 ⟨rfl, hb⟩
    have H43 := hid (H36.out.call hb)
    clear hb
    obtain ⟨c44, hc44⟩ : ∃ xx', tvCode ys h = xx' := ⟨_, rfl⟩
    rw [hc44]
    have HNc44 := hid hc44
    clear hc44
    by_cases c45 : (c44 : Int) = 0
    · obtain ⟨c45c, c45d⟩ : (c44 : Int) ≤ 0 ∧ (0 : Int) ≤ c44 := by omega
      have c45a : ((c44 : Int) == (0)) = true := by simpa using c45
      have c45b : ((c44 : Int) != (0)) = false := by simpa using c45
      have c45h := hid c45
      clear c45
      go_upto_region 7 with fail
      obtain ⟨xl1, xl2, w1, w2⟩ := tv_pos (ts := xs) (n := w) (by rw [HNc37.out]; have := c38h.out; have := c45h.out; omega)
      obtain ⟨yl1, yl2, h1, h2⟩ := tv_pos (ts := ys) (n := h) (by rw [HNc44.out]; have := c38h.out; have := c45h.out; omega)
      have hlx := HLX.out
      have hly := HLY.out
      have xm1 : 1 ≤ xm ∧ xm ≤ 128 := by omega
      have ym1 : 1 ≤ ym ∧ ym ≤ 128 := by omega
      clear hlx hly
      go_wp2_with fail
      refine (mulAny _ _ _ _ (by omega)).mono ?_
      rintro e w46 ⟨rfl, hsw⟩
      have hsw2 : w42 = w46 := by first | exact hsw | exact hsw.symm
      clear hsw
      subst hsw2
      obtain ⟨v47, hv47⟩ : ∃ xx', mVal (xm : Int) (ym : Int) 4096 = xx' := ⟨_, rfl⟩
      rw [hv47]
      have HNv47 := hid hv47
      clear hv47
      obtain ⟨b48, hb48⟩ : ∃ xx', mOk (xm : Int) (ym : Int) 4096 = xx' := ⟨_, rfl⟩
      rw [hb48]
      have HNb48 := hid hb48
      clear hb48
      cases b48 with
      | true =>
        by_cases c49 : (s : Int) < 0
        · skip
          go_wp2_with fail
          go_ret
          exact ⟨ret_i (by unfold rzCode; rw [HNc37.out, if_neg (by have := c38h.out; have := c45h.out; omega), HNc44.out, if_neg (by have := c38h.out; have := c45h.out; omega), if_neg (by rw [← HLX.out, ← HLY.out]; exact mul_yes HNb48.out), if_pos (by simp only [shOk, decide_eq_true_eq]; omega)]), by first | exact H43.out.below | exact H43.out.below'⟩
        · skip
          by_cases c50 : (24 : Int) < s
          · skip
            go_wp2_with fail
            go_ret
            exact ⟨ret_i (by unfold rzCode; rw [HNc37.out, if_neg (by have := c38h.out; have := c45h.out; omega), HNc44.out, if_neg (by have := c38h.out; have := c45h.out; omega), if_neg (by rw [← HLX.out, ← HLY.out]; exact mul_yes HNb48.out), if_pos (by simp only [shOk, decide_eq_true_eq]; omega)]), by first | exact H43.out.below | exact H43.out.below'⟩
          · skip
            by_cases c51 : (s2 : Int) < 0
            · skip
              go_wp2_with fail
              go_ret
              exact ⟨ret_i (by unfold rzCode; rw [HNc37.out, if_neg (by have := c38h.out; have := c45h.out; omega), HNc44.out, if_neg (by have := c38h.out; have := c45h.out; omega), if_neg (by rw [← HLX.out, ← HLY.out]; exact mul_yes HNb48.out), if_pos (by simp only [shOk, decide_eq_true_eq]; omega)]), by first | exact H43.out.below | exact H43.out.below'⟩
            · skip
              by_cases c52 : (24 : Int) < s2
              · skip
                go_wp2_with fail
                go_ret
                exact ⟨ret_i (by unfold rzCode; rw [HNc37.out, if_neg (by have := c38h.out; have := c45h.out; omega), HNc44.out, if_neg (by have := c38h.out; have := c45h.out; omega), if_neg (by rw [← HLX.out, ← HLY.out]; exact mul_yes HNb48.out), if_pos (by simp only [shOk, decide_eq_true_eq]; omega)]), by first | exact H43.out.below | exact H43.out.below'⟩
              · skip
                by_cases c53 : (mx : Int) < 1
                · skip
                  have z54 := H43.out.cell 0 rfl 0 rfl
                  have z55 := H43.out.cell 0 rfl 1 rfl
                  have z56 := H43.out.cell 0 rfl 2 rfl
                  go_wp2_with fail
                  clear z54 z55 z56
                  go_ret
                  exact ⟨ret_i (by unfold rzCode; rw [HNc37.out, if_neg (by have := c38h.out; have := c45h.out; omega), HNc44.out, if_neg (by have := c38h.out; have := c45h.out; omega), if_neg (by rw [← HLX.out, ← HLY.out]; exact mul_yes HNb48.out), if_neg (by simp only [shOk, decide_eq_true_eq]; omega), if_pos (by simp only [valOk, decide_eq_true_eq]; omega)]), by first | exact H43.out.below | exact H43.out.below'⟩
                · skip
                  by_cases c57 : (4294967296 : Int) < mx
                  · skip
                    have z58 := H43.out.cell 0 rfl 0 rfl
                    have z59 := H43.out.cell 0 rfl 1 rfl
                    have z60 := H43.out.cell 0 rfl 2 rfl
                    go_wp2_with fail
                    clear z58 z59 z60
                    go_ret
                    exact ⟨ret_i (by unfold rzCode; rw [HNc37.out, if_neg (by have := c38h.out; have := c45h.out; omega), HNc44.out, if_neg (by have := c38h.out; have := c45h.out; omega), if_neg (by rw [← HLX.out, ← HLY.out]; exact mul_yes HNb48.out), if_neg (by simp only [shOk, decide_eq_true_eq]; omega), if_pos (by simp only [valOk, decide_eq_true_eq]; omega)]), by first | exact H43.out.below | exact H43.out.below'⟩
                  · skip
                    by_cases c61 : (out : Int) < 1
                    · skip
                      have z62 := H43.out.cell 0 rfl 0 rfl
                      have z63 := H43.out.cell 0 rfl 1 rfl
                      have z64 := H43.out.cell 0 rfl 2 rfl
                      go_wp2_with fail
                      clear z62 z63 z64
                      go_ret
                      exact ⟨ret_i (by unfold rzCode; rw [HNc37.out, if_neg (by have := c38h.out; have := c45h.out; omega), HNc44.out, if_neg (by have := c38h.out; have := c45h.out; omega), if_neg (by rw [← HLX.out, ← HLY.out]; exact mul_yes HNb48.out), if_neg (by simp only [shOk, decide_eq_true_eq]; omega), if_pos (by simp only [valOk, decide_eq_true_eq]; omega)]), by first | exact H43.out.below | exact H43.out.below'⟩
                    · skip
                      by_cases c65 : (4294967296 : Int) < out
                      · skip
                        have z66 := H43.out.cell 0 rfl 0 rfl
                        have z67 := H43.out.cell 0 rfl 1 rfl
                        have z68 := H43.out.cell 0 rfl 2 rfl
                        go_wp2_with fail
                        clear z66 z67 z68
                        go_ret
                        exact ⟨ret_i (by unfold rzCode; rw [HNc37.out, if_neg (by have := c38h.out; have := c45h.out; omega), HNc44.out, if_neg (by have := c38h.out; have := c45h.out; omega), if_neg (by rw [← HLX.out, ← HLY.out]; exact mul_yes HNb48.out), if_neg (by simp only [shOk, decide_eq_true_eq]; omega), if_pos (by simp only [valOk, decide_eq_true_eq]; omega)]), by first | exact H43.out.below | exact H43.out.below'⟩
                      · skip
                        have z69 := H43.out.cell 0 rfl 0 rfl
                        have z70 := H43.out.cell 0 rfl 1 rfl
                        have z71 := H43.out.cell 0 rfl 2 rfl
                        go_wp2_with fail
                        clear z69 z70 z71
                        refine (rzacc_any _ _ _ _ _ _ _ _ _ _ _ (H43.out.oldTps HX.out) (H43.out.oldTps HY.out) (by omega) (by omega)).mono ?_
                        rintro e w72 ⟨rfl, hb⟩
                        have H73 := hid (H43.out.call hb)
                        clear hb
                        obtain ⟨c74, hc74⟩ : ∃ xx', acCode mx s xs ys = xx' := ⟨_, rfl⟩
                        rw [hc74]
                        have HNc74 := hid hc74
                        clear hc74
                        go_wp2_with fail
                        go_ret
                        exact ⟨ret_i (by unfold rzCode; rw [HNc37.out, if_neg (by have := c38h.out; have := c45h.out; omega), HNc44.out, if_neg (by have := c38h.out; have := c45h.out; omega), if_neg (by rw [← HLX.out, ← HLY.out]; exact mul_yes HNb48.out), if_neg (by simp only [shOk, decide_eq_true_eq]; omega), if_neg (by simp only [valOk, decide_eq_true_eq]; omega), HNc74.out]), by first | exact H73.out.below | exact H73.out.below'⟩
      | false =>
        go_wp2_with fail
        go_ret
        exact ⟨ret_i (by unfold rzCode; rw [HNc37.out, if_neg (by have := c38h.out; have := c45h.out; omega), HNc44.out, if_neg (by have := c38h.out; have := c45h.out; omega), if_pos (by rw [← HLX.out, ← HLY.out]; exact mul_no HNb48.out)]), by first | exact H43.out.below | exact H43.out.below'⟩
    · have c45a : ((c44 : Int) == (0)) = false := by simpa using c45
      have c45b : ((c44 : Int) != (0)) = true := by simpa using c45
      have c45h := hid c45
      clear c45
      go_wp2_with fail
      go_ret
      exact ⟨ret_i (by unfold rzCode; rw [HNc37.out, if_neg (by have := c38h.out; have := c45h.out; omega), HNc44.out, if_pos (by have := c38h.out; have := c45h.out; omega)]), by first | exact H43.out.below | exact H43.out.below'⟩
  · have c38a : ((c37 : Int) == (0)) = false := by simpa using c38
    have c38b : ((c37 : Int) != (0)) = true := by simpa using c38
    have c38h := hid c38
    clear c38
    go_wp2_with fail
    go_ret
    exact ⟨ret_i (by unfold rzCode; rw [HNc37.out, if_pos (by have := c38h.out; omega)]), by first | exact H36.out.below | exact H36.out.below'⟩
end Go.Proofs.Yteejjnhlfgjlaaa
