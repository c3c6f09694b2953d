/-
 Contract: the shape of a stage's result, or the error, in the program.
-/
import Derived.Test.YteejjnhlfgjlaaaGreatShp2
import Derived.Test.YteejjnhlfgjlaaaGreatKM
import Derived.Test.YteejjnhlfgjlaaaGreatKB
namespace Go.Proofs.YteejjnhlfgjlaaaGreat
open Go.RowKit
attribute [local go_sem ↓] Go.wp_at_zero Go.wp_at_succ
set_option linter.unusedVariables false
set_option linter.unusedSimpArgs false

theorem ret_sh {x y z c x' y' z' c' : Int} (hx : x = x') (hy : y = y') (hz : z = z') (hc : c = c') : Ending.returned (.tuple #[.agg #[.int .i64 x, .int .i64 y, .int .i64 z], .int .i64 c]) = .returned (.tuple #[.agg #[.int .i64 x', .int .i64 y', .int .i64 z'], .int .i64 c']) := by rw [hx, hy, hz, hc]
theorem sf_kd {kd sb ep ef kw kh : Int} {wn rn cn : Nat} {sh sh2 : Int} {xn yn : Nat} {bins : Int} {on : Nat} {mx : Int} (h : sfOk kd sb ep ef kw kh wn rn cn sh sh2 xn yn bins on mx = true) : 1 ≤ kd ∧ kd ≤ 6 := by
 unfold sfOk at h; simp only [decide_eq_true_eq] at h; exact ⟨h.1, h.2.1⟩
theorem shE2t {pa pr pb : Bool} (h : true = (!pa || (pr && !pb))) : pa = false ∨ (pr = true ∧ pb = false) := by cases pa <;> cases pr <;> cases pb <;> simp_all
theorem shE2f {pa pr pb : Bool} (h : false = (!pa || (pr && !pb))) : ¬ (pa = false ∨ (pr = true ∧ pb = false)) := by cases pa <;> cases pr <;> cases pb <;> simp_all
theorem shE2p {pa pr pb : Bool} (h : false = (!pa || (pr && !pb))) : pa = true := by cases pa <;> simp_all
theorem shE3t {kd : Int} {b : Bool} (h : true = (edOk kd && !b)) : kd ≤ 3 ∧ b = false := by
 unfold edOk at h; cases b <;> simp at h <;> exact ⟨by omega, rfl⟩
theorem shE3f {kd : Int} {b : Bool} (h : false = (edOk kd && !b)) (h1 : 1 ≤ kd) : ¬ (kd ≤ 3 ∧ b = false) := by
 rintro ⟨h2, rfl⟩
 unfold edOk at h; simp at h; omega

set_option maxRecDepth 100000 in
set_option maxHeartbeats 1600000 in
theorem of_any {kd sa sb : Int} {bar : Bool} {ep ef kw kh : Int} {wa : Option Addr} {wn wc : Nat} {ra : Option Addr} {rn rc : Nat} {ca : Option Addr} {cn cc : Nat} {sh sh2 : Int} {xa : Option Addr} {xn xc : Nat} {ya : Option Addr} {yn yc : Nat} {bins : Int} {oa : Option Addr} {on oc : Nat} {mx : Int} {A : Array Value} (hA : A = #[.int .i64 kd, .int .i64 sa, .int .i64 sb, .bool bar, .int .i64 ep, .int .i64 ef, .int .i64 kw, .int .i64 kh, .slice wa wn wc, .slice ra rn rc, .slice ca cn cc, .int .i64 sh, .int .i64 sh2, .slice xa xn xc, .slice ya yn yc, .int .i64 bins, .slice oa on oc, .int .i64 mx]) (wl rl cl : List Int) (X Y : Tbl) (ol : List (Int × Int)) (aw ah am bw bh bm : Int) (W : World) (hw : Slc W wa wn wc wl) (hr : Slc W ra rn rc rl) (hc : Slc W ca cn cc cl) (hx : Tps W xa xn xc X) (hy : Tps W ya yn yc Y) (ho : Prs W oa on oc ol) : Calls Tryz.prog 11 #[.agg A, .agg #[.int .i64 aw, .int .i64 ah, .int .i64 am], .agg #[.int .i64 bw, .int .i64 bh, .int .i64 bm]] W fun e w' => e = .returned (.tuple #[.agg #[.int .i64 (shIf (shCode (sfOk kd sb ep ef kw kh wn rn cn sh sh2 xn yn bins on mx) kd sb ep ef kw kh wl rl cl sh sh2 X Y bins ol mx aw ah am bw bh bm) (shW kd xn bins aw)), .int .i64 (shIf (shCode (sfOk kd sb ep ef kw kh wn rn cn sh sh2 xn yn bins on mx) kd sb ep ef kw kh wl rl cl sh sh2 X Y bins ol mx aw ah am bw bh bm) (shH kd yn ah)), .int .i64 (shIf (shCode (sfOk kd sb ep ef kw kh wn rn cn sh sh2 xn yn bins on mx) kd sb ep ef kw kh wl rl cl sh sh2 X Y bins ol mx aw ah am bw bh bm) (shM kd mx aw ah am))], .int .i64 (shCode (sfOk kd sb ep ef kw kh wn rn cn sh sh2 xn yn bins on mx) kd sb ep ef kw kh wl rl cl sh sh2 X Y bins ol mx aw ah am bw bh bm)]) ∧ Below W.heap.size W w' := by
 have HA := kq hA; clear hA; have HWL := kq hw; have HRL := kq hr; have HCL := kq hc; have HX := kq hx; have HY := kq hy; have HO := kq ho; clear hw hr hc hx hy ho; obtain ⟨B, hB⟩ : ∃ B, W.heap.size = B := ⟨_, rfl⟩; have HI0 := kq (St.init hB)
 go_enter Tryz.func11, Tryz.ntmps11
 go_upto_region 1 with fail
 have H1 := kq (show St _ _ (.cells (B + 1 + 1 + 1) _ _ :: .cells (B + 1 + 1) _ _ :: .cells (B + 1) _ _ :: .cells B _ _ :: _) _ _ from ((((HI0.o.alloc A 34 hB).alloc #[.int .i64 aw, .int .i64 ah, .int .i64 am] 37 (by first | exact hB | simp [hB])).alloc #[.int .i64 bw, .int .i64 bh, .int .i64 bm] 37 (by first | exact hB | simp [hB])).alloc #[.int .i64 0, .int .i64 0, .int .i64 0] 37 (by first | exact hB | simp [hB]))); first | refine gK H1 ?_ | refine gL H1 ?_ | refine gC H1 ?_
 clear H1; intro w1 H1; have z1 := H1.o.loadStg 3 rfl (by rw [HA.o]; rfl)
 go_wp2_with (refine loadArm z1 (by rfl) (by rfl) ?_)
 clear z1; refine (sfields_A HA.o _).mono ?_; rintro e w1 ⟨rfl, hb⟩; have H2 := kq (H1.o.call hb); clear hb; obtain ⟨b1, HNb1⟩ := nQ (sfOk kd sb ep ef kw kh wn rn cn sh sh2 xn yn bins on mx); rw [HNb1.o]; cases b1; rotate_left
 ·
  go_upto_region 3 with fail
  go_cut [24] (fun s wx => ∃ (bd2 : Bool), s = .bool bd2 ∧ bd2 = (!pOk aw ah am || (shTwo kd sb && !pOk bw bh bm)) ∧ St B W [.cells (B + 1 + 1 + 1) #[.int .i64 0, .int .i64 0, .int .i64 0] 37, .cells (B + 1 + 1) #[.int .i64 bw, .int .i64 bh, .int .i64 bm] 37, .cells (B + 1) #[.int .i64 aw, .int .i64 ah, .int .i64 am] 37, .cells B A 34] [] wx)
  case first =>
   have z1 := H2.o.c3 2 rfl; go_wp2_with fail
   clear z1; refine (shvalid_any _ _ _ _).mono ?_; rintro e w1 ⟨rfl, hb⟩; have H1 := kq (H2.o.call hb); clear hb; obtain ⟨b1, HNb2⟩ := nQ (pOk aw ah am); rw [HNb2.o]; cases b1; rotate_left
   ·
    have z1 := H1.o.loadStg 3 rfl (by rw [HA.o]; rfl)
    go_wp2_with (refine loadArm z1 (by rfl) (by rfl) ?_)
    clear z1; refine (pair_any HA.o _).mono ?_; rintro e w1 ⟨rfl, hb⟩; have H3 := kq (H1.o.call hb); clear hb; obtain ⟨b1, HNb3⟩ := nQ (shTwo kd sb); rw [HNb3.o]; cases b1; rotate_left
    ·
     have z1 := H3.o.c3 1 rfl; go_wp2_with fail
     clear z1; refine (shvalid_any _ _ _ _).mono ?_; rintro e w1 ⟨rfl, hb⟩; have H4 := kq (H3.o.call hb); clear hb; obtain ⟨b1, HNb4⟩ := nQ (pOk bw bh bm); rw [HNb4.o]; go_wp2_with fail
     go_meet
     exact ⟨_, rfl, by rw [HNb2.o, HNb3.o, HNb4.o]; rfl, H4.o.pick [0, 1, 2, 3] rfl (by decide)⟩
    go_wp2_with fail
    go_meet
    exact ⟨_, rfl, by rw [HNb2.o, HNb3.o]; rfl, H3.o.pick [0, 1, 2, 3] rfl (by decide)⟩
   go_wp2_with fail
   go_meet
   exact ⟨_, rfl, by rw [HNb2.o]; rfl, H1.o.pick [0, 1, 2, 3] rfl (by decide)⟩
  case rest =>
   obtain ⟨bd2, rfl, hbd, hst⟩ := hcut; obtain ⟨u1, rfl⟩ : ∃ u1 : World, u1 = wc := ⟨_, rfl⟩; have H1 := kq hst; clear hst; have HB2 := kq hbd; clear hbd; cases bd2; rotate_left
   ·
    have z1 := H1.o.f3 0 rfl; go_wp2_with fail
    clear z1; have H3 := kq (show St _ _ (.cells (B + 1 + 1 + 1) #[.int .i64 0, .int .i64 0, .int .i64 0] 37 :: _) _ _ from (((H1.o.set 0 rfl 0 (.int .i64 0)).set 0 rfl 1 (.int .i64 0)).set 0 rfl 2 (.int .i64 0))); have hC : shCode (sfOk kd sb ep ef kw kh wn rn cn sh sh2 xn yn bins on mx) kd sb ep ef kw kh wl rl cl sh sh2 X Y bins ol mx aw ah am bw bh bm = 2 := by unfold shCode; rw [HNb1.o, if_neg (by decide), if_pos (shE2t HB2.o)]
    obtain ⟨q1, q2, q3⟩ := H3.o.c3 0 rfl; refine bodyPost_ret (v := .tuple #[.agg #[.int .i64 0, .int .i64 0, .int .i64 0], .int .i64 2]) ?_ rfl ⟨ret_sh (by rw [hC]; rfl) (by rw [hC]; rfl) (by rw [hC]; rfl) hC.symm, H3.o.bl⟩; simp [results, Tryz.results11, go_sem, q1, q2, q3]
   go_upto_region 5 with fail
   go_cut [36] (fun s wx => ∃ (bd3 : Bool), s = .bool bd3 ∧ bd3 = (edOk kd && !bValid ep ef am) ∧ St B W [.cells (B + 1 + 1 + 1) #[.int .i64 0, .int .i64 0, .int .i64 0] 37, .cells (B + 1 + 1) #[.int .i64 bw, .int .i64 bh, .int .i64 bm] 37, .cells (B + 1) #[.int .i64 aw, .int .i64 ah, .int .i64 am] 37, .cells B A 34] [] wx)
   case first =>
    have z1 := H1.o.cell 3 rfl 0 (show A[0]? = some (.int .i64 kd) from by rw [HA.o]; rfl); go_wp2_with fail
    clear z1; refine (edged_any _ _).mono ?_; rintro e w1 ⟨rfl, hsw⟩; have hsw2 : u1 = w1 := by first | exact hsw | exact hsw.symm
    clear hsw; subst hsw2; obtain ⟨b1, HNb2⟩ := nQ (edOk kd); rw [HNb2.o]; cases b1; rotate_left
    ·
     have z1 := H1.o.c3 2 rfl; have z4 := H1.o.cell 3 rfl 4 (show A[4]? = some (.int .i64 ep) from by rw [HA.o]; rfl); have z5 := H1.o.cell 3 rfl 5 (show A[5]? = some (.int .i64 ef) from by rw [HA.o]; rfl); go_wp2_with fail
     clear z1 z4 z5; refine (bvalid_any _ _ _ _).mono ?_; rintro e w1 ⟨rfl, hb⟩; have H3 := kq (H1.o.call hb); clear hb; obtain ⟨b1, HNb3⟩ := nQ (bValid ep ef am); rw [HNb3.o]; go_wp2_with fail
     go_meet
     exact ⟨_, rfl, by rw [HNb2.o, HNb3.o]; rfl, H3.o.pick [0, 1, 2, 3] rfl (by decide)⟩
    go_wp2_with fail
    go_meet
    exact ⟨_, rfl, by rw [HNb2.o]; rfl, H1.o.pick [0, 1, 2, 3] rfl (by decide)⟩
   case rest =>
    obtain ⟨bd3, rfl, hbd, hst⟩ := hcut; obtain ⟨u1, rfl⟩ : ∃ u1 : World, u1 = wc := ⟨_, rfl⟩; have H1 := kq hst; clear hst; have HB3 := kq hbd; clear hbd; cases bd3; rotate_left
    ·
     have z1 := H1.o.f3 0 rfl; go_wp2_with fail
     clear z1; have H3 := kq (show St _ _ (.cells (B + 1 + 1 + 1) #[.int .i64 0, .int .i64 0, .int .i64 0] 37 :: _) _ _ from (((H1.o.set 0 rfl 0 (.int .i64 0)).set 0 rfl 1 (.int .i64 0)).set 0 rfl 2 (.int .i64 0))); have hC : shCode (sfOk kd sb ep ef kw kh wn rn cn sh sh2 xn yn bins on mx) kd sb ep ef kw kh wl rl cl sh sh2 X Y bins ol mx aw ah am bw bh bm = 1 := by unfold shCode; rw [HNb1.o, if_neg (by decide), if_neg (shE2f HB2.o), if_pos (shE3t HB3.o)]
     obtain ⟨q1, q2, q3⟩ := H3.o.c3 0 rfl; refine bodyPost_ret (v := .tuple #[.agg #[.int .i64 0, .int .i64 0, .int .i64 0], .int .i64 1]) ?_ rfl ⟨ret_sh (by rw [hC]; rfl) (by rw [hC]; rfl) (by rw [hC]; rfl) hC.symm, H3.o.bl⟩; simp [results, Tryz.results11, go_sem, q1, q2, q3]
    have z1 := H1.o.c3 2 rfl; have z4 := H1.o.c3 1 rfl; have z7 := H1.o.loadStg 3 rfl (by rw [HA.o]; rfl)
    go_wp2_with (refine loadArm z7 (by rfl) (by rfl) ?_)
    clear z1 z4 z7; refine (shcheck_any HA.o wl rl cl X Y ol aw ah am bw bh bm _ (H1.o.old HWL.o) (H1.o.old HRL.o) (H1.o.old HCL.o) (H1.o.oldTps HX.o) (H1.o.oldTps HY.o) (H1.o.oldPrs HO.o)).mono ?_; rintro e w1 ⟨rfl, hb⟩; have H3 := kq (H1.o.call hb); clear hb; obtain ⟨c1, HNc1⟩ := nQ (shCk kd sb kw kh wl rl cl sh sh2 X Y bins ol mx aw ah am bw bh bm); rw [HNc1.o]
    rcases eqZ c1 0 with ⟨c2a, c2b, c2c, c2d, c2h⟩ | ⟨c2a, c2b, c2h⟩
    ·
     rcases eqZ kd 3 with ⟨c4a, c4b, c4c, c4d, c4h⟩ | ⟨c4a, c4b, c4h⟩
     ·
      have z1 := H3.o.f3 0 rfl; have z7 := H3.o.cell 3 rfl 0 (show A[0]? = some (.int .i64 kd) from by rw [HA.o]; rfl); have z8 := H3.o.cell 3 rfl 13 (show A[13]? = some (.slice xa xn xc) from by rw [HA.o]; rfl); have z9 := H3.o.cell 3 rfl 14 (show A[14]? = some (.slice ya yn yc) from by rw [HA.o]; rfl); have z10 := H3.o.cell 3 rfl 17 (show A[17]? = some (.int .i64 mx) from by rw [HA.o]; rfl); go_wp2_with fail
      clear z1 z7 z8 z9 z10; have H1 := kq (show St _ _ (.cells (B + 1 + 1 + 1) #[.int .i64 xn, .int .i64 yn, .int .i64 mx] 37 :: _) _ _ from (((H3.o.set 0 rfl 0 (.int .i64 xn)).set 0 rfl 1 (.int .i64 yn)).set 0 rfl 2 (.int .i64 mx))); have hC : shCode (sfOk kd sb ep ef kw kh wn rn cn sh sh2 xn yn bins on mx) kd sb ep ef kw kh wl rl cl sh sh2 X Y bins ol mx aw ah am bw bh bm = c1 := by unfold shCode; rw [HNb1.o, if_neg (by decide), if_neg (shE2f HB2.o), if_neg (shE3f HB3.o (sf_kd HNb1.o).1)]; exact HNc1.o
      have hz9 : c1 = 0 := by have := c2h.o; have := c4h.o; omega
      obtain ⟨q1, q2, q3⟩ := H1.o.c3 0 rfl; refine bodyPost_ret (v := .tuple #[.agg #[.int .i64 xn, .int .i64 yn, .int .i64 mx], .int .i64 0]) ?_ rfl ⟨ret_sh (by rw [hC, hz9]; show _ = shW kd xn bins aw; unfold shW; have := c2h.o; have := c4h.o; first | (rw [if_pos (by omega)]; done) | (rw [if_neg (by omega), if_pos (by omega)]; done) | (rw [if_neg (by omega), if_neg (by omega)]; done)) (by rw [hC, hz9]; show _ = shH kd yn ah; unfold shH; have := c2h.o; have := c4h.o; first | (rw [if_pos (by omega)]; done) | (rw [if_neg (by omega), if_pos (by omega)]; done) | (rw [if_neg (by omega), if_neg (by omega)]; done)) (by rw [hC, hz9]; show _ = shM kd mx aw ah am; unfold shM; have := c2h.o; have := c4h.o; first | (rw [if_pos (by omega)]; done) | (rw [if_neg (by omega), if_pos (by omega)]; done) | (rw [if_neg (by omega), if_neg (by omega)]; done)) (by rw [hC, hz9]), H1.o.bl⟩; simp [results, Tryz.results11, go_sem, q1, q2, q3]
     rcases eqZ kd 4 with ⟨c5a, c5b, c5c, c5d, c5h⟩ | ⟨c5a, c5b, c5h⟩
     ·
      have z1 := H3.o.cell 3 rfl 0 (show A[0]? = some (.int .i64 kd) from by rw [HA.o]; rfl); go_upto_region 14 with fail
      clear z1; have hpa := pOk_iff.1 (shE2p HB2.o); have haw : 0 ≤ aw * ah := Int.mul_nonneg (by omega) (by omega); have wm1 : IntKind.i64.wrap (aw * ah) = aw * ah := IntWalk.i64_in _ (by omega); have z1 := H3.o.c3 2 rfl; have z4 := H3.o.f3 0 rfl; have z10 := H3.o.cell 3 rfl 15 (show A[15]? = some (.int .i64 bins) from by rw [HA.o]; rfl); go_wp2_with fail
      clear z1 z4 z10; have H1 := kq (show St _ _ (.cells (B + 1 + 1 + 1) #[.int .i64 bins, .int .i64 1, .int .i64 (aw * ah)] 37 :: _) _ _ from (((H3.o.set 0 rfl 0 (.int .i64 bins)).set 0 rfl 1 (.int .i64 1)).set 0 rfl 2 (.int .i64 (aw * ah)))); have hC : shCode (sfOk kd sb ep ef kw kh wn rn cn sh sh2 xn yn bins on mx) kd sb ep ef kw kh wl rl cl sh sh2 X Y bins ol mx aw ah am bw bh bm = c1 := by unfold shCode; rw [HNb1.o, if_neg (by decide), if_neg (shE2f HB2.o), if_neg (shE3f HB3.o (sf_kd HNb1.o).1)]; exact HNc1.o
      have hz9 : c1 = 0 := by have := c2h.o; have := c4h.o; have := c5h.o; omega
      obtain ⟨q1, q2, q3⟩ := H1.o.c3 0 rfl; refine bodyPost_ret (v := .tuple #[.agg #[.int .i64 bins, .int .i64 1, .int .i64 (aw * ah)], .int .i64 0]) ?_ rfl ⟨ret_sh (by rw [hC, hz9]; show _ = shW kd xn bins aw; unfold shW; have := c2h.o; have := c4h.o; have := c5h.o; first | (rw [if_pos (by omega)]; done) | (rw [if_neg (by omega), if_pos (by omega)]; done) | (rw [if_neg (by omega), if_neg (by omega)]; done)) (by rw [hC, hz9]; show _ = shH kd yn ah; unfold shH; have := c2h.o; have := c4h.o; have := c5h.o; first | (rw [if_pos (by omega)]; done) | (rw [if_neg (by omega), if_pos (by omega)]; done) | (rw [if_neg (by omega), if_neg (by omega)]; done)) (by rw [hC, hz9]; show _ = shM kd mx aw ah am; unfold shM; have := c2h.o; have := c4h.o; have := c5h.o; first | (rw [if_pos (by omega)]; done) | (rw [if_neg (by omega), if_pos (by omega)]; done) | (rw [if_neg (by omega), if_neg (by omega)]; done)) (by rw [hC, hz9]), H1.o.bl⟩; simp [results, Tryz.results11, go_sem, q1, q2, q3]
     rcases eqZ kd 5 with ⟨c6a, c6b, c6c, c6d, c6h⟩ | ⟨c6a, c6b, c6h⟩
     ·
      have z1 := H3.o.cell 3 rfl 0 (show A[0]? = some (.int .i64 kd) from by rw [HA.o]; rfl); go_upto_region 16 with fail
      clear z1; have hpa := pOk_iff.1 (shE2p HB2.o); have hb1 : 0 ≤ am * aw ∧ am * aw ≤ 549755813888 := ⟨Int.mul_nonneg (by omega) (by omega), by have := Int.mul_le_mul (show am ≤ 4294967296 by omega) (show aw ≤ 128 by omega) (by omega) (by omega); omega⟩; have hb2 : 0 ≤ am * aw * ah ∧ am * aw * ah ≤ 70368744177664 := ⟨Int.mul_nonneg (by omega) (by omega), by have := Int.mul_le_mul hb1.2 (show ah ≤ 128 by omega) (by omega) (by omega); omega⟩; have wm1 : IntKind.i64.wrap (am * aw) = am * aw := IntWalk.i64_in _ (by omega); have wm2 : IntKind.i64.wrap (am * aw * ah) = am * aw * ah := IntWalk.i64_in _ (by omega); clear hb1 hb2; have z1 := H3.o.c3 2 rfl; have z4 := H3.o.f3 0 rfl; go_wp2_with fail
      clear z1 z4; have H1 := kq (show St _ _ (.cells (B + 1 + 1 + 1) #[.int .i64 aw, .int .i64 ah, .int .i64 ((am * aw) * ah)] 37 :: _) _ _ from (((H3.o.set 0 rfl 0 (.int .i64 aw)).set 0 rfl 1 (.int .i64 ah)).set 0 rfl 2 (.int .i64 ((am * aw) * ah)))); have hC : shCode (sfOk kd sb ep ef kw kh wn rn cn sh sh2 xn yn bins on mx) kd sb ep ef kw kh wl rl cl sh sh2 X Y bins ol mx aw ah am bw bh bm = c1 := by unfold shCode; rw [HNb1.o, if_neg (by decide), if_neg (shE2f HB2.o), if_neg (shE3f HB3.o (sf_kd HNb1.o).1)]; exact HNc1.o
      have hz9 : c1 = 0 := by have := c2h.o; have := c4h.o; have := c5h.o; have := c6h.o; omega
      obtain ⟨q1, q2, q3⟩ := H1.o.c3 0 rfl; refine bodyPost_ret (v := .tuple #[.agg #[.int .i64 aw, .int .i64 ah, .int .i64 ((am * aw) * ah)], .int .i64 0]) ?_ rfl ⟨ret_sh (by rw [hC, hz9]; show _ = shW kd xn bins aw; unfold shW; have := c2h.o; have := c4h.o; have := c5h.o; have := c6h.o; first | (rw [if_pos (by omega)]; done) | (rw [if_neg (by omega), if_pos (by omega)]; done) | (rw [if_neg (by omega), if_neg (by omega)]; done)) (by rw [hC, hz9]; show _ = shH kd yn ah; unfold shH; have := c2h.o; have := c4h.o; have := c5h.o; have := c6h.o; first | (rw [if_pos (by omega)]; done) | (rw [if_neg (by omega), if_pos (by omega)]; done) | (rw [if_neg (by omega), if_neg (by omega)]; done)) (by rw [hC, hz9]; show _ = shM kd mx aw ah am; unfold shM; have := c2h.o; have := c4h.o; have := c5h.o; have := c6h.o; first | (rw [if_pos (by omega)]; done) | (rw [if_neg (by omega), if_pos (by omega)]; done) | (rw [if_neg (by omega), if_neg (by omega)]; done)) (by rw [hC, hz9]), H1.o.bl⟩; simp [results, Tryz.results11, go_sem, q1, q2, q3]
     have z1 := H3.o.c3 2 rfl; have z4 := H3.o.f3 0 rfl; have z10 := H3.o.cell 3 rfl 0 (show A[0]? = some (.int .i64 kd) from by rw [HA.o]; rfl); have z11 := H3.o.cell 3 rfl 17 (show A[17]? = some (.int .i64 mx) from by rw [HA.o]; rfl); go_wp2_with fail
     clear z1 z4 z10 z11; have H1 := kq (show St _ _ (.cells (B + 1 + 1 + 1) #[.int .i64 aw, .int .i64 ah, .int .i64 mx] 37 :: _) _ _ from (((H3.o.set 0 rfl 0 (.int .i64 aw)).set 0 rfl 1 (.int .i64 ah)).set 0 rfl 2 (.int .i64 mx))); have hC : shCode (sfOk kd sb ep ef kw kh wn rn cn sh sh2 xn yn bins on mx) kd sb ep ef kw kh wl rl cl sh sh2 X Y bins ol mx aw ah am bw bh bm = c1 := by unfold shCode; rw [HNb1.o, if_neg (by decide), if_neg (shE2f HB2.o), if_neg (shE3f HB3.o (sf_kd HNb1.o).1)]; exact HNc1.o
     have hz9 : c1 = 0 := by have := c2h.o; have := c4h.o; have := c5h.o; have := c6h.o; omega
     obtain ⟨q1, q2, q3⟩ := H1.o.c3 0 rfl; refine bodyPost_ret (v := .tuple #[.agg #[.int .i64 aw, .int .i64 ah, .int .i64 mx], .int .i64 0]) ?_ rfl ⟨ret_sh (by rw [hC, hz9]; show _ = shW kd xn bins aw; unfold shW; have := c2h.o; have := c4h.o; have := c5h.o; have := c6h.o; first | (rw [if_pos (by omega)]; done) | (rw [if_neg (by omega), if_pos (by omega)]; done) | (rw [if_neg (by omega), if_neg (by omega)]; done)) (by rw [hC, hz9]; show _ = shH kd yn ah; unfold shH; have := c2h.o; have := c4h.o; have := c5h.o; have := c6h.o; first | (rw [if_pos (by omega)]; done) | (rw [if_neg (by omega), if_pos (by omega)]; done) | (rw [if_neg (by omega), if_neg (by omega)]; done)) (by rw [hC, hz9]; show _ = shM kd mx aw ah am; unfold shM; have := c2h.o; have := c4h.o; have := c5h.o; have := c6h.o; first | (rw [if_pos (by omega)]; done) | (rw [if_neg (by omega), if_pos (by omega)]; done) | (rw [if_neg (by omega), if_neg (by omega)]; done)) (by rw [hC, hz9]), H1.o.bl⟩; simp [results, Tryz.results11, go_sem, q1, q2, q3]
    have z1 := H3.o.f3 0 rfl; go_wp2_with fail
    clear z1; have H1 := kq (show St _ _ (.cells (B + 1 + 1 + 1) #[.int .i64 0, .int .i64 0, .int .i64 0] 37 :: _) _ _ from (((H3.o.set 0 rfl 0 (.int .i64 0)).set 0 rfl 1 (.int .i64 0)).set 0 rfl 2 (.int .i64 0))); have hC : shCode (sfOk kd sb ep ef kw kh wn rn cn sh sh2 xn yn bins on mx) kd sb ep ef kw kh wl rl cl sh sh2 X Y bins ol mx aw ah am bw bh bm = c1 := by unfold shCode; rw [HNb1.o, if_neg (by decide), if_neg (shE2f HB2.o), if_neg (shE3f HB3.o (sf_kd HNb1.o).1)]; exact HNc1.o
    obtain ⟨q1, q2, q3⟩ := H1.o.c3 0 rfl; refine bodyPost_ret (v := .tuple #[.agg #[.int .i64 0, .int .i64 0, .int .i64 0], .int .i64 c1]) ?_ rfl ⟨ret_sh (by rw [hC]; exact (if_neg (by have := c2h.o; omega)).symm) (by rw [hC]; exact (if_neg (by have := c2h.o; omega)).symm) (by rw [hC]; exact (if_neg (by have := c2h.o; omega)).symm) hC.symm, H1.o.bl⟩; simp [results, Tryz.results11, go_sem, q1, q2, q3]
 have z1 := H2.o.f3 0 rfl; go_wp2_with fail
 clear z1; have H1 := kq (show St _ _ (.cells (B + 1 + 1 + 1) #[.int .i64 0, .int .i64 0, .int .i64 0] 37 :: _) _ _ from (((H2.o.set 0 rfl 0 (.int .i64 0)).set 0 rfl 1 (.int .i64 0)).set 0 rfl 2 (.int .i64 0))); have hC : shCode (sfOk kd sb ep ef kw kh wn rn cn sh sh2 xn yn bins on mx) kd sb ep ef kw kh wl rl cl sh sh2 X Y bins ol mx aw ah am bw bh bm = 1 := by unfold shCode; rw [HNb1.o]; rfl
 obtain ⟨q1, q2, q3⟩ := H1.o.c3 0 rfl; refine bodyPost_ret (v := .tuple #[.agg #[.int .i64 0, .int .i64 0, .int .i64 0], .int .i64 1]) ?_ rfl ⟨ret_sh (by rw [hC]; rfl) (by rw [hC]; rfl) (by rw [hC]; rfl) hC.symm, H1.o.bl⟩; simp [results, Tryz.results11, go_sem, q1, q2, q3]
end Go.Proofs.YteejjnhlfgjlaaaGreat
