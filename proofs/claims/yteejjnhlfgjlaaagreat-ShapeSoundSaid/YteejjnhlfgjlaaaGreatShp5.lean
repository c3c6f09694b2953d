/-
 Contract: the shape of a stage's result, or the error, in the reference.
-/
import Derived.Test.YteejjnhlfgjlaaaGreatShp4
namespace Go.Proofs.YteejjnhlfgjlaaaGreat
open Go.RowKit
attribute [local go_sem ↓] Go.wp_at_zero Go.wp_at_succ
set_option linter.unusedVariables false
set_option linter.unusedSimpArgs false

set_option maxRecDepth 100000 in
set_option maxHeartbeats 1600000 in
theorem rof_any {kd sa sb : Int} {bar : Bool} {ep ef kw kh : Int} {wa : Option Addr} {wn wc : Nat} {ra : Option Addr} {rn rc : Nat} {ca : Option Addr} {cn cc : Nat} {sh sh2 : Int} {xa : Option Addr} {xn xc : Nat} {ya : Option Addr} {yn yc : Nat} {bins : Int} {oa : Option Addr} {on oc : Nat} {mx : Int} {A : Array Value} (hA : A = #[.int .i64 kd, .int .i64 sa, .int .i64 sb, .bool bar, .int .i64 ep, .int .i64 ef, .int .i64 kw, .int .i64 kh, .slice wa wn wc, .slice ra rn rc, .slice ca cn cc, .int .i64 sh, .int .i64 sh2, .slice xa xn xc, .slice ya yn yc, .int .i64 bins, .slice oa on oc, .int .i64 mx]) (wl rl cl : List Int) (X Y : Tbl) (ol : List (Int × Int)) (aw ah am bw bh bm : Int) (W : World) (hw : Slc W wa wn wc wl) (hr : Slc W ra rn rc rl) (hc : Slc W ca cn cc cl) (hx : Tps W xa xn xc X) (hy : Tps W ya yn yc Y) (ho : Prs W oa on oc ol) : Calls Tryz.prog 28 #[.agg A, .agg #[.int .i64 aw, .int .i64 ah, .int .i64 am], .agg #[.int .i64 bw, .int .i64 bh, .int .i64 bm]] W fun e w' => e = .returned (.tuple #[.agg #[.int .i64 (shIf (shCode (sfOk kd sb ep ef kw kh wn rn cn sh sh2 xn yn bins on mx) kd sb ep ef kw kh wl rl cl sh sh2 X Y bins ol mx aw ah am bw bh bm) (shW kd xn bins aw)), .int .i64 (shIf (shCode (sfOk kd sb ep ef kw kh wn rn cn sh sh2 xn yn bins on mx) kd sb ep ef kw kh wl rl cl sh sh2 X Y bins ol mx aw ah am bw bh bm) (shH kd yn ah)), .int .i64 (shIf (shCode (sfOk kd sb ep ef kw kh wn rn cn sh sh2 xn yn bins on mx) kd sb ep ef kw kh wl rl cl sh sh2 X Y bins ol mx aw ah am bw bh bm) (shM kd mx aw ah am))], .int .i64 (shCode (sfOk kd sb ep ef kw kh wn rn cn sh sh2 xn yn bins on mx) kd sb ep ef kw kh wl rl cl sh sh2 X Y bins ol mx aw ah am bw bh bm)]) ∧ Below W.heap.size W w' := by
 have HA := kq hA; clear hA; have HWL := kq hw; have HRL := kq hr; have HCL := kq hc; have HX := kq hx; have HY := kq hy; have HO := kq ho; clear hw hr hc hx hy ho; obtain ⟨B, hB⟩ : ∃ B, W.heap.size = B := ⟨_, rfl⟩; have HI0 := kq (St.init hB)
 go_enter Tryz.func28, Tryz.ntmps28
 go_upto_region 1 with fail
 have H1 := kq (show St _ _ (.cells (B + 1 + 1 + 1) _ _ :: .cells (B + 1 + 1) _ _ :: .cells (B + 1) _ _ :: .cells B _ _ :: _) _ _ from ((((HI0.o.alloc A 34 hB).alloc #[.int .i64 aw, .int .i64 ah, .int .i64 am] 37 (by first | exact hB | simp [hB])).alloc #[.int .i64 bw, .int .i64 bh, .int .i64 bm] 37 (by first | exact hB | simp [hB])).alloc #[.int .i64 0, .int .i64 0, .int .i64 0] 37 (by first | exact hB | simp [hB]))); first | refine gK H1 ?_ | refine gL H1 ?_ | refine gC H1 ?_
 clear H1; intro w1 H1; have z1 := H1.o.loadStg 3 rfl (by rw [HA.o]; rfl)
 go_wp2_with (refine loadArm z1 (by rfl) (by rfl) ?_)
 clear z1; refine (rsfields_A HA.o _).mono ?_; rintro e w1 ⟨rfl, hb⟩; have H2 := kq (H1.o.call hb); clear hb; obtain ⟨b1, HNb1⟩ := nQ (sfOk kd sb ep ef kw kh wn rn cn sh sh2 xn yn bins on mx); rw [HNb1.o]; cases b1; rotate_left
 ·
  go_upto_region 3 with fail
  go_cut [15] (fun s wx => ∃ (bd2 : Bool), s = .bool bd2 ∧ bd2 = (!pOk aw ah am || (shTwo kd sb && !pOk bw bh bm)) ∧ St B W [.cells (B + 1 + 1 + 1) #[.int .i64 0, .int .i64 0, .int .i64 0] 37, .cells (B + 1 + 1) #[.int .i64 bw, .int .i64 bh, .int .i64 bm] 37, .cells (B + 1) #[.int .i64 aw, .int .i64 ah, .int .i64 am] 37, .cells B A 34] [] wx)
  case first =>
   have z1 := H2.o.c3 2 rfl; go_wp2_with fail
   clear z1; refine (rshvalid_any _ _ _ _).mono ?_; rintro e w1 ⟨rfl, hb⟩; have H1 := kq (H2.o.call hb); clear hb; obtain ⟨b1, HNb2⟩ := nQ (pOk aw ah am); rw [HNb2.o]; cases b1; rotate_left
   ·
    have z1 := H1.o.loadStg 3 rfl (by rw [HA.o]; rfl)
    go_wp2_with (refine loadArm z1 (by rfl) (by rfl) ?_)
    clear z1; refine (rtwo_any HA.o _).mono ?_; rintro e w1 ⟨rfl, hb⟩; have H3 := kq (H1.o.call hb); clear hb; obtain ⟨b1, HNb3⟩ := nQ (shTwo kd sb); rw [HNb3.o]; cases b1; rotate_left
    ·
     have z1 := H3.o.c3 1 rfl; go_wp2_with fail
     clear z1; refine (rshvalid_any _ _ _ _).mono ?_; rintro e w1 ⟨rfl, hb⟩; have H4 := kq (H3.o.call hb); clear hb; obtain ⟨b1, HNb4⟩ := nQ (pOk bw bh bm); rw [HNb4.o]; go_wp2_with fail
     go_meet
     exact ⟨_, rfl, by rw [HNb2.o, HNb3.o, HNb4.o]; rfl, H4.o.pick [0, 1, 2, 3] rfl (by decide)⟩
    go_wp2_with fail
    go_meet
    exact ⟨_, rfl, by rw [HNb2.o, HNb3.o]; rfl, H3.o.pick [0, 1, 2, 3] rfl (by decide)⟩
   go_wp2_with fail
   go_meet
   exact ⟨_, rfl, by rw [HNb2.o]; rfl, H1.o.pick [0, 1, 2, 3] rfl (by decide)⟩
  case rest =>
   obtain ⟨bd2, rfl, hbd, hst⟩ := hcut; obtain ⟨u1, rfl⟩ : ∃ u1 : World, u1 = wc := ⟨_, rfl⟩; have H1 := kq hst; clear hst; have HB2 := kq hbd; clear hbd; cases bd2; rotate_left
   ·
    have z1 := H1.o.f3 0 rfl; go_wp2_with fail
    clear z1; have H3 := kq (show St _ _ (.cells (B + 1 + 1 + 1) #[.int .i64 0, .int .i64 0, .int .i64 0] 37 :: _) _ _ from (((H1.o.set 0 rfl 0 (.int .i64 0)).set 0 rfl 1 (.int .i64 0)).set 0 rfl 2 (.int .i64 0))); have hC : shCode (sfOk kd sb ep ef kw kh wn rn cn sh sh2 xn yn bins on mx) kd sb ep ef kw kh wl rl cl sh sh2 X Y bins ol mx aw ah am bw bh bm = 2 := by unfold shCode; rw [HNb1.o, if_neg (by decide), if_pos (shE2t HB2.o)]
    obtain ⟨q1, q2, q3⟩ := H3.o.c3 0 rfl; refine bodyPost_ret (v := .tuple #[.agg #[.int .i64 0, .int .i64 0, .int .i64 0], .int .i64 2]) ?_ rfl ⟨ret_sh (by rw [hC]; rfl) (by rw [hC]; rfl) (by rw [hC]; rfl) hC.symm, H3.o.bl⟩; simp [results, Tryz.results28, go_sem, q1, q2, q3]
   go_upto_region 5 with fail
   go_cut [29] (fun s wx => ∃ (bd3 : Bool), s = .bool bd3 ∧ bd3 = (edOk kd && !bValid ep ef am) ∧ St B W [.cells (B + 1 + 1 + 1) #[.int .i64 0, .int .i64 0, .int .i64 0] 37, .cells (B + 1 + 1) #[.int .i64 bw, .int .i64 bh, .int .i64 bm] 37, .cells (B + 1) #[.int .i64 aw, .int .i64 ah, .int .i64 am] 37, .cells B A 34] [] wx)
   case first =>
    have z1 := H1.o.cell 3 rfl 0 (show A[0]? = some (.int .i64 kd) from by rw [HA.o]; rfl); go_wp2_with fail
    clear z1; refine (redged_any _ _).mono ?_; rintro e w1 ⟨rfl, hsw⟩; have hsw2 : u1 = w1 := by first | exact hsw | exact hsw.symm
    clear hsw; subst hsw2; obtain ⟨b1, HNb2⟩ := nQ (edOk kd); rw [HNb2.o]; cases b1; rotate_left
    ·
     have z1 := H1.o.c3 2 rfl; have z4 := H1.o.cell 3 rfl 4 (show A[4]? = some (.int .i64 ep) from by rw [HA.o]; rfl); have z5 := H1.o.cell 3 rfl 5 (show A[5]? = some (.int .i64 ef) from by rw [HA.o]; rfl); go_wp2_with fail
     clear z1 z4 z5; refine (rbvalid_any _ _ _ _).mono ?_; rintro e w1 ⟨rfl, hb⟩; have H3 := kq (H1.o.call hb); clear hb; obtain ⟨b1, HNb3⟩ := nQ (bValid ep ef am); rw [HNb3.o]; go_wp2_with fail
     go_meet
     exact ⟨_, rfl, by rw [HNb2.o, HNb3.o]; rfl, H3.o.pick [0, 1, 2, 3] rfl (by decide)⟩
    go_wp2_with fail
    go_meet
    exact ⟨_, rfl, by rw [HNb2.o]; rfl, H1.o.pick [0, 1, 2, 3] rfl (by decide)⟩
   case rest =>
    obtain ⟨bd3, rfl, hbd, hst⟩ := hcut; obtain ⟨u1, rfl⟩ : ∃ u1 : World, u1 = wc := ⟨_, rfl⟩; have H1 := kq hst; clear hst; have HB3 := kq hbd; clear hbd; cases bd3; rotate_left
    ·
     have z1 := H1.o.f3 0 rfl; go_wp2_with fail
     clear z1; have H3 := kq (show St _ _ (.cells (B + 1 + 1 + 1) #[.int .i64 0, .int .i64 0, .int .i64 0] 37 :: _) _ _ from (((H1.o.set 0 rfl 0 (.int .i64 0)).set 0 rfl 1 (.int .i64 0)).set 0 rfl 2 (.int .i64 0))); have hC : shCode (sfOk kd sb ep ef kw kh wn rn cn sh sh2 xn yn bins on mx) kd sb ep ef kw kh wl rl cl sh sh2 X Y bins ol mx aw ah am bw bh bm = 1 := by unfold shCode; rw [HNb1.o, if_neg (by decide), if_neg (shE2f HB2.o), if_pos (shE3t HB3.o)]
     obtain ⟨q1, q2, q3⟩ := H3.o.c3 0 rfl; refine bodyPost_ret (v := .tuple #[.agg #[.int .i64 0, .int .i64 0, .int .i64 0], .int .i64 1]) ?_ rfl ⟨ret_sh (by rw [hC]; rfl) (by rw [hC]; rfl) (by rw [hC]; rfl) hC.symm, H3.o.bl⟩; simp [results, Tryz.results28, go_sem, q1, q2, q3]
    have z1 := H1.o.c3 2 rfl; have z4 := H1.o.c3 1 rfl; have z7 := H1.o.loadStg 3 rfl (by rw [HA.o]; rfl)
    go_wp2_with (refine loadArm z7 (by rfl) (by rfl) ?_)
    clear z1 z4 z7; refine (kernel_any HA.o wl rl cl X Y ol aw ah am bw bh bm _ (H1.o.old HWL.o) (H1.o.old HRL.o) (H1.o.old HCL.o) (H1.o.oldTps HX.o) (H1.o.oldTps HY.o) (H1.o.oldPrs HO.o) (by have h9 := pOk_iff.1 (shE2p HB2.o); exact ⟨Int.mul_nonneg (by omega) (by omega), h9.2.2.2.2.1⟩)).mono ?_; rintro e w1 ⟨kx, ky, kz, rfl, hk9, hb⟩; have H3 := kq (H1.o.call hb); have HK9 := kq hk9; clear hb hk9; obtain ⟨c1, HNc1⟩ := nQ (shCk kd sb kw kh wl rl cl sh sh2 X Y bins ol mx aw ah am bw bh bm); rw [HNc1.o]; obtain ⟨D1, hD1⟩ := nK w1.heap.size; go_upto_region 8 with fail
    have H1 := kq (H3.o.alloc #[.int .i64 kx, .int .i64 ky, .int .i64 kz] 37 hD1); first | refine gK H1 ?_ | refine gL H1 ?_ | refine gC H1 ?_
    clear H1; intro w1 H1; clear hD1
    rcases eqZ c1 0 with ⟨c2a, c2b, c2c, c2d, c2h⟩ | ⟨c2a, c2b, c2h⟩
    ·
     have z1 := H1.o.c3 0 rfl; have z4 := H1.o.f3 1 rfl; go_wp2_with fail
     clear z1 z4; have H3 := kq (show St _ _ (_ :: .cells (B + 1 + 1 + 1) #[.int .i64 kx, .int .i64 ky, .int .i64 kz] 37 :: _) _ _ from (((H1.o.set 1 rfl 0 (.int .i64 kx)).set 1 rfl 1 (.int .i64 ky)).set 1 rfl 2 (.int .i64 kz))); have hC : shCode (sfOk kd sb ep ef kw kh wn rn cn sh sh2 xn yn bins on mx) kd sb ep ef kw kh wl rl cl sh sh2 X Y bins ol mx aw ah am bw bh bm = c1 := by unfold shCode; rw [HNb1.o, if_neg (by decide), if_neg (shE2f HB2.o), if_neg (shE3f HB3.o (sf_kd HNb1.o).1)]; exact HNc1.o
     have hz9 : c1 = 0 := by have := c2h.o; omega
     obtain ⟨q1, q2, q3⟩ := H3.o.c3 1 rfl; refine bodyPost_ret (v := .tuple #[.agg #[.int .i64 kx, .int .i64 ky, .int .i64 kz], .int .i64 0]) ?_ rfl ⟨ret_sh (by rw [hC, hz9]; exact (HK9.o (by rw [HNc1.o]; exact hz9)).1) (by rw [hC, hz9]; exact (HK9.o (by rw [HNc1.o]; exact hz9)).2.1) (by rw [hC, hz9]; exact (HK9.o (by rw [HNc1.o]; exact hz9)).2.2) (by rw [hC, hz9]), H3.o.bl⟩; simp [results, Tryz.results28, go_sem, q1, q2, q3]
    have z1 := H1.o.f3 1 rfl; go_wp2_with fail
    clear z1; have H3 := kq (show St _ _ (_ :: .cells (B + 1 + 1 + 1) #[.int .i64 0, .int .i64 0, .int .i64 0] 37 :: _) _ _ from (((H1.o.set 1 rfl 0 (.int .i64 0)).set 1 rfl 1 (.int .i64 0)).set 1 rfl 2 (.int .i64 0))); have hC : shCode (sfOk kd sb ep ef kw kh wn rn cn sh sh2 xn yn bins on mx) kd sb ep ef kw kh wl rl cl sh sh2 X Y bins ol mx aw ah am bw bh bm = c1 := by unfold shCode; rw [HNb1.o, if_neg (by decide), if_neg (shE2f HB2.o), if_neg (shE3f HB3.o (sf_kd HNb1.o).1)]; exact HNc1.o
    obtain ⟨q1, q2, q3⟩ := H3.o.c3 1 rfl; refine bodyPost_ret (v := .tuple #[.agg #[.int .i64 0, .int .i64 0, .int .i64 0], .int .i64 c1]) ?_ rfl ⟨ret_sh (by rw [hC]; exact (if_neg (by have := c2h.o; omega)).symm) (by rw [hC]; exact (if_neg (by have := c2h.o; omega)).symm) (by rw [hC]; exact (if_neg (by have := c2h.o; omega)).symm) hC.symm, H3.o.bl⟩; simp [results, Tryz.results28, go_sem, q1, q2, q3]
 have z1 := H2.o.f3 0 rfl; go_wp2_with fail
 clear z1; have H1 := kq (show St _ _ (.cells (B + 1 + 1 + 1) #[.int .i64 0, .int .i64 0, .int .i64 0] 37 :: _) _ _ from (((H2.o.set 0 rfl 0 (.int .i64 0)).set 0 rfl 1 (.int .i64 0)).set 0 rfl 2 (.int .i64 0))); have hC : shCode (sfOk kd sb ep ef kw kh wn rn cn sh sh2 xn yn bins on mx) kd sb ep ef kw kh wl rl cl sh sh2 X Y bins ol mx aw ah am bw bh bm = 1 := by unfold shCode; rw [HNb1.o]; rfl
 obtain ⟨q1, q2, q3⟩ := H1.o.c3 0 rfl; refine bodyPost_ret (v := .tuple #[.agg #[.int .i64 0, .int .i64 0, .int .i64 0], .int .i64 1]) ?_ rfl ⟨ret_sh (by rw [hC]; rfl) (by rw [hC]; rfl) (by rw [hC]; rfl) hC.symm, H1.o.bl⟩; simp [results, Tryz.results28, go_sem, q1, q2, q3]
end Go.Proofs.YteejjnhlfgjlaaaGreat
