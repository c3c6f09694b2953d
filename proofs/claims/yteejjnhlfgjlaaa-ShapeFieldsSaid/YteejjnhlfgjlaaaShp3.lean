/-
 Contract: the shape of a stage's result, or the error, in the program.
-/
import Derived.Test.YteejjnhlfgjlaaaShp2
import Derived.Test.YteejjnhlfgjlaaaStAc2
import Derived.Test.YteejjnhlfgjlaaaKB
namespace Go.Proofs.Yteejjnhlfgjlaaa
open Go.RowKit
attribute [local go_sem ↓] Go.wp_at_zero Go.wp_at_succ
set_option linter.unusedVariables false
set_option linter.unusedSimpArgs false

theorem ret_sh {x y z c x' y' z' c' : Int} (hx : x = x') (hy : y = y') (hz : z = z') (hc : c = c') : Ending.returned (.tuple #[.agg #[.int .i64 x, .int .i64 y, .int .i64 z], .int .i64 c]) = .returned (.tuple #[.agg #[.int .i64 x', .int .i64 y', .int .i64 z'], .int .i64 c']) := by rw [hx, hy, hz, hc]
theorem sf_kd {kd sb ep ef kw kh : Int} {wn rn cn : Nat} {sh sh2 : Int} {xn yn : Nat} {bins : Int} {on : Nat} {mx : Int} (h : sfOk kd sb ep ef kw kh wn rn cn sh sh2 xn yn bins on mx = true) : 1 ≤ kd ∧ kd ≤ 6 := by
 unfold sfOk at h; simp only [decide_eq_true_eq] at h; exact ⟨h.1, h.2.1⟩

set_option maxRecDepth 100000 in
set_option maxHeartbeats 1600000 in
theorem of_any {kd sa sb : Int} {bar : Bool} {ep ef kw kh : Int} {wa : Option Addr} {wn wc : Nat} {ra : Option Addr} {rn rc : Nat} {ca : Option Addr} {cn cc : Nat} {sh sh2 : Int} {xa : Option Addr} {xn xc : Nat} {ya : Option Addr} {yn yc : Nat} {bins : Int} {oa : Option Addr} {on oc : Nat} {mx : Int} {A : Array Value} (hA : A = #[.int .i64 kd, .int .i64 sa, .int .i64 sb, .bool bar, .int .i64 ep, .int .i64 ef, .int .i64 kw, .int .i64 kh, .slice wa wn wc, .slice ra rn rc, .slice ca cn cc, .int .i64 sh, .int .i64 sh2, .slice xa xn xc, .slice ya yn yc, .int .i64 bins, .slice oa on oc, .int .i64 mx]) (wl rl cl : List Int) (X Y : Tbl) (ol : List (Int × Int)) (aw ah am bw bh bm : Int) (W : World) (hw : Slc W wa wn wc wl) (hr : Slc W ra rn rc rl) (hc : Slc W ca cn cc cl) (hx : Tps W xa xn xc X) (hy : Tps W ya yn yc Y) (ho : Prs W oa on oc ol) : Calls Try.prog 9 #[.agg A, .agg #[.int .i64 aw, .int .i64 ah, .int .i64 am], .agg #[.int .i64 bw, .int .i64 bh, .int .i64 bm]] W fun e w' => e = .returned (.tuple #[.agg #[.int .i64 (shIf (shCode (sfOk kd sb ep ef kw kh wn rn cn sh sh2 xn yn bins on mx) kd sb ep ef kw kh wl rl cl sh sh2 X Y bins ol mx aw ah am bw bh bm) (shW kd xn bins aw)), .int .i64 (shIf (shCode (sfOk kd sb ep ef kw kh wn rn cn sh sh2 xn yn bins on mx) kd sb ep ef kw kh wl rl cl sh sh2 X Y bins ol mx aw ah am bw bh bm) (shH kd yn ah)), .int .i64 (shIf (shCode (sfOk kd sb ep ef kw kh wn rn cn sh sh2 xn yn bins on mx) kd sb ep ef kw kh wl rl cl sh sh2 X Y bins ol mx aw ah am bw bh bm) (shM kd mx aw ah am))], .int .i64 (shCode (sfOk kd sb ep ef kw kh wn rn cn sh sh2 xn yn bins on mx) kd sb ep ef kw kh wl rl cl sh sh2 X Y bins ol mx aw ah am bw bh bm)]) ∧ Below W.heap.size W w' := by
 have HA := hid hA
 clear hA
 have HWL := hid hw
 have HRL := hid hr
 have HCL := hid hc
 have HX := hid hx
 have HY := hid hy
 have HO := hid ho
 clear hw hr hc hx hy ho
 obtain ⟨B, hB⟩ : ∃ B, W.heap.size = B := ⟨_, rfl⟩
 have HI0 := hid (St.init hB)
 go_enter Try.func9, Try.ntmps9
 go_upto_region 1 with fail
 have H77 := hid (show St _ _ (.cells (B + 1 + 1 + 1) _ _ :: .cells (B + 1 + 1) _ _ :: .cells (B + 1) _ _ :: .cells B _ _ :: _) _ _ from ((((HI0.out.alloc A 33 hB).alloc #[.int .i64 aw, .int .i64 ah, .int .i64 am] 24 (by first | exact hB | simp [hB])).alloc #[.int .i64 bw, .int .i64 bh, .int .i64 bm] 24 (by first | exact hB | simp [hB])).alloc #[.int .i64 0, .int .i64 0, .int .i64 0] 24 (by first | exact hB | simp [hB])))
 first | refine gen_code H77.out ?_ | refine gen_list H77.out ?_ | refine gen_calls H77.out ?_
 intro w78 hG
 clear H77
 have H77 := hid hG
 clear hG
 have z79 := H77.out.loadStg 3 rfl (by rw [HA.out]; rfl)
 go_wp2_with (refine loadArm z79 (by rfl) (by rfl) ?_)
 clear z79
 refine (sfields_A HA.out _).mono ?_
 rintro e w80 ⟨rfl, hb⟩
 have H81 := hid (H77.out.call hb)
 clear hb
 obtain ⟨b82, hb82⟩ : ∃ xx', (sfOk kd sb ep ef kw kh wn rn cn sh sh2 xn yn bins on mx) = xx' := ⟨_, rfl⟩
 rw [hb82]
 have HNb82 := hid hb82
 clear hb82
 cases b82 with
 | true =>
  have z83 := H81.out.cell 2 rfl 0 rfl
  have z84 := H81.out.cell 2 rfl 1 rfl
  have z85 := H81.out.cell 2 rfl 2 rfl
  go_wp2_with fail
  clear z83 z84 z85
  refine (shvalid_any _ _ _ _).mono ?_
  rintro e w86 ⟨rfl, hb⟩
  have H87 := hid (H81.out.call hb)
  clear hb
  obtain ⟨b88, hb88⟩ : ∃ xx', pOk aw ah am = xx' := ⟨_, rfl⟩
  rw [hb88]
  have HNb88 := hid hb88
  clear hb88
  cases b88 with
  | true =>
   have z89 := H87.out.loadStg 3 rfl (by rw [HA.out]; rfl)
   go_wp2_with (refine loadArm z89 (by rfl) (by rfl) ?_)
   clear z89
   refine (pair_any HA.out _).mono ?_
   rintro e w90 ⟨rfl, hb⟩
   have H91 := hid (H87.out.call hb)
   clear hb
   obtain ⟨b92, hb92⟩ : ∃ xx', shTwo kd sb = xx' := ⟨_, rfl⟩
   rw [hb92]
   have HNb92 := hid hb92
   clear hb92
   cases b92 with
   | true =>
    have z93 := H91.out.cell 1 rfl 0 rfl
    have z94 := H91.out.cell 1 rfl 1 rfl
    have z95 := H91.out.cell 1 rfl 2 rfl
    go_wp2_with fail
    clear z93 z94 z95
    refine (shvalid_any _ _ _ _).mono ?_
    rintro e w96 ⟨rfl, hb⟩
    have H97 := hid (H91.out.call hb)
    clear hb
    obtain ⟨b98, hb98⟩ : ∃ xx', pOk bw bh bm = xx' := ⟨_, rfl⟩
    rw [hb98]
    have HNb98 := hid hb98
    clear hb98
    cases b98 with
    | true =>
     have z99 := H97.out.cell 3 rfl 0 (show A[0]? = some (.int .i64 kd) from by rw [HA.out]; rfl)
     go_wp2_with fail
     clear z99
     refine (edged_any _ _).mono ?_
     rintro e w100 ⟨rfl, hsw⟩
     have hsw2 : w96 = w100 := by first | exact hsw | exact hsw.symm
     clear hsw
     subst hsw2
     obtain ⟨b101, hb101⟩ : ∃ xx', edOk kd = xx' := ⟨_, rfl⟩
     rw [hb101]
     have HNb101 := hid hb101
     clear hb101
     cases b101 with
     | true =>
      have z102 := H97.out.cell 2 rfl 0 rfl
      have z103 := H97.out.cell 2 rfl 1 rfl
      have z104 := H97.out.cell 2 rfl 2 rfl
      have z105 := H97.out.cell 3 rfl 4 (show A[4]? = some (.int .i64 ep) from by rw [HA.out]; rfl)
      have z106 := H97.out.cell 3 rfl 5 (show A[5]? = some (.int .i64 ef) from by rw [HA.out]; rfl)
      go_wp2_with fail
      clear z102 z103 z104 z105 z106
      refine (bvalid_any _ _ _ _).mono ?_
      rintro e w107 ⟨rfl, hb⟩
      have H108 := hid (H97.out.call hb)
      clear hb
      obtain ⟨b109, hb109⟩ : ∃ xx', bValid ep ef am = xx' := ⟨_, rfl⟩
      rw [hb109]
      have HNb109 := hid hb109
      clear hb109
      cases b109 with
      | true =>
       have z110 := H108.out.cell 2 rfl 0 rfl
       have z111 := H108.out.cell 2 rfl 1 rfl
       have z112 := H108.out.cell 2 rfl 2 rfl
       have z113 := H108.out.cell 1 rfl 0 rfl
       have z114 := H108.out.cell 1 rfl 1 rfl
       have z115 := H108.out.cell 1 rfl 2 rfl
       have z116 := H108.out.loadStg 3 rfl (by rw [HA.out]; rfl)
       go_wp2_with (refine loadArm z116 (by rfl) (by rfl) ?_)
       clear z110 z111 z112 z113 z114 z115 z116
       refine (shcheck_any HA.out wl rl cl X Y ol aw ah am bw bh bm _ (H108.out.old HWL.out) (H108.out.old HRL.out) (H108.out.old HCL.out) (H108.out.oldTps HX.out) (H108.out.oldTps HY.out) (H108.out.oldPrs HO.out)).mono ?_
       rintro e w117 ⟨rfl, hb⟩
       have H118 := hid (H108.out.call hb)
       clear hb
       obtain ⟨c119, hc119⟩ : ∃ xx', shCk kd sb kw kh wl rl cl sh sh2 X Y bins ol mx aw ah am bw bh bm = xx' := ⟨_, rfl⟩
       rw [hc119]
       have HNc119 := hid hc119
       clear hc119
       by_cases c120 : (c119 : Int) = 0
       ·
        obtain ⟨c120c, c120d⟩ : (c119 : Int) ≤ 0 ∧ (0 : Int) ≤ c119 := by omega
        have c120a : ((c119 : Int) == (0)) = true := by simpa using c120
        have c120b : ((c119 : Int) != (0)) = false := by simpa using c120
        have c120h := hid c120
        clear c120
        by_cases c121 : (kd : Int) = 3
        ·
         obtain ⟨c121c, c121d⟩ : (kd : Int) ≤ 3 ∧ (3 : Int) ≤ kd := by omega
         have c121a : ((kd : Int) == (3)) = true := by simpa using c121
         have c121b : ((kd : Int) != (3)) = false := by simpa using c121
         have c121h := hid c121
         clear c121
         have z122 := H118.out.cell 0 rfl 0 rfl
         have z123 := H118.out.free 0 rfl 0
         have z124 := H118.out.cell 0 rfl 1 rfl
         have z125 := H118.out.free 0 rfl 1
         have z126 := H118.out.cell 0 rfl 2 rfl
         have z127 := H118.out.free 0 rfl 2
         have z128 := H118.out.cell 3 rfl 0 (show A[0]? = some (.int .i64 kd) from by rw [HA.out]; rfl)
         have z129 := H118.out.cell 3 rfl 13 (show A[13]? = some (.slice xa xn xc) from by rw [HA.out]; rfl)
         have z130 := H118.out.cell 3 rfl 14 (show A[14]? = some (.slice ya yn yc) from by rw [HA.out]; rfl)
         have z131 := H118.out.cell 3 rfl 17 (show A[17]? = some (.int .i64 mx) from by rw [HA.out]; rfl)
         go_wp2_with fail
         clear z122 z123 z124 z125 z126 z127 z128 z129 z130 z131
         have H132 := hid (show St _ _ (.cells (B + 1 + 1 + 1) #[.int .i64 xn, .int .i64 yn, .int .i64 mx] 24 :: _) _ _ from (((H118.out.set 0 rfl 0 (.int .i64 xn)).set 0 rfl 1 (.int .i64 yn)).set 0 rfl 2 (.int .i64 mx)))
         have hC : shCode (sfOk kd sb ep ef kw kh wn rn cn sh sh2 xn yn bins on mx) kd sb ep ef kw kh wl rl cl sh sh2 X Y bins ol mx aw ah am bw bh bm = c119 := by unfold shCode; rw [HNb82.out, if_neg (by decide), if_neg (fun h => h.elim (fun h => by rw [HNb88.out] at h; cases h) (fun h => by first | exact absurd (HNb92.out.symm.trans h.1) (by decide) | exact absurd (HNb98.out.symm.trans h.2) (by decide))), if_neg (fun h => by have h2 := h.2; rw [HNb109.out] at h2; cases h2)]; exact HNc119.out
         have hz9 : c119 = 0 := by have := c120h.out; have := c121h.out; omega
         have q133 := H132.out.cell 0 rfl 0 rfl
         have q134 := H132.out.cell 0 rfl 1 rfl
         have q135 := H132.out.cell 0 rfl 2 rfl
         refine bodyPost_ret (v := .tuple #[.agg #[.int .i64 xn, .int .i64 yn, .int .i64 mx], .int .i64 0]) ?_ rfl ⟨ret_sh (by rw [hC, hz9]; show _ = shW kd xn bins aw; unfold shW; have := c120h.out; have := c121h.out; first | (rw [if_pos (by omega)]; done) | (rw [if_neg (by omega), if_pos (by omega)]; done) | (rw [if_neg (by omega), if_neg (by omega)]; done)) (by rw [hC, hz9]; show _ = shH kd yn ah; unfold shH; have := c120h.out; have := c121h.out; first | (rw [if_pos (by omega)]; done) | (rw [if_neg (by omega), if_pos (by omega)]; done) | (rw [if_neg (by omega), if_neg (by omega)]; done)) (by rw [hC, hz9]; show _ = shM kd mx aw ah am; unfold shM; have := c120h.out; have := c121h.out; first | (rw [if_pos (by omega)]; done) | (rw [if_neg (by omega), if_pos (by omega)]; done) | (rw [if_neg (by omega), if_neg (by omega)]; done)) (by rw [hC, hz9]), by first | exact H132.out.below | exact H132.out.below'⟩
         simp [results, Try.results9, go_sem, q133, q134, q135]
        ·
         have c121a : ((kd : Int) == (3)) = false := by simpa using c121
         have c121b : ((kd : Int) != (3)) = true := by simpa using c121
         have c121h := hid c121
         clear c121
         by_cases c136 : (kd : Int) = 4
         ·
          obtain ⟨c136c, c136d⟩ : (kd : Int) ≤ 4 ∧ (4 : Int) ≤ kd := by omega
          have c136a : ((kd : Int) == (4)) = true := by simpa using c136
          have c136b : ((kd : Int) != (4)) = false := by simpa using c136
          have c136h := hid c136
          clear c136
          have z137 := H118.out.cell 3 rfl 0 (show A[0]? = some (.int .i64 kd) from by rw [HA.out]; rfl)
          go_upto_region 14 with fail
          clear z137
          have hpa := pOk_iff.1 HNb88.out
          have haw : 0 ≤ aw * ah := Int.mul_nonneg (by omega) (by omega)
          have wm1 : IntKind.i64.wrap (aw * ah) = aw * ah := IntWalk.i64_in _ (by omega)
          have z138 := H118.out.cell 2 rfl 0 rfl
          have z139 := H118.out.cell 2 rfl 1 rfl
          have z140 := H118.out.cell 2 rfl 2 rfl
          have z141 := H118.out.cell 0 rfl 0 rfl
          have z142 := H118.out.free 0 rfl 0
          have z143 := H118.out.cell 0 rfl 1 rfl
          have z144 := H118.out.free 0 rfl 1
          have z145 := H118.out.cell 0 rfl 2 rfl
          have z146 := H118.out.free 0 rfl 2
          have z147 := H118.out.cell 3 rfl 15 (show A[15]? = some (.int .i64 bins) from by rw [HA.out]; rfl)
          go_wp2_with fail
          clear z138 z139 z140 z141 z142 z143 z144 z145 z146 z147
          have H148 := hid (show St _ _ (.cells (B + 1 + 1 + 1) #[.int .i64 bins, .int .i64 1, .int .i64 (aw * ah)] 24 :: _) _ _ from (((H118.out.set 0 rfl 0 (.int .i64 bins)).set 0 rfl 1 (.int .i64 1)).set 0 rfl 2 (.int .i64 (aw * ah))))
          have hC : shCode (sfOk kd sb ep ef kw kh wn rn cn sh sh2 xn yn bins on mx) kd sb ep ef kw kh wl rl cl sh sh2 X Y bins ol mx aw ah am bw bh bm = c119 := by unfold shCode; rw [HNb82.out, if_neg (by decide), if_neg (fun h => h.elim (fun h => by rw [HNb88.out] at h; cases h) (fun h => by first | exact absurd (HNb92.out.symm.trans h.1) (by decide) | exact absurd (HNb98.out.symm.trans h.2) (by decide))), if_neg (fun h => by have h2 := h.2; rw [HNb109.out] at h2; cases h2)]; exact HNc119.out
          have hz9 : c119 = 0 := by have := c120h.out; have := c121h.out; have := c136h.out; omega
          have q149 := H148.out.cell 0 rfl 0 rfl
          have q150 := H148.out.cell 0 rfl 1 rfl
          have q151 := H148.out.cell 0 rfl 2 rfl
          refine bodyPost_ret (v := .tuple #[.agg #[.int .i64 bins, .int .i64 1, .int .i64 (aw * ah)], .int .i64 0]) ?_ rfl ⟨ret_sh (by rw [hC, hz9]; show _ = shW kd xn bins aw; unfold shW; have := c120h.out; have := c121h.out; have := c136h.out; first | (rw [if_pos (by omega)]; done) | (rw [if_neg (by omega), if_pos (by omega)]; done) | (rw [if_neg (by omega), if_neg (by omega)]; done)) (by rw [hC, hz9]; show _ = shH kd yn ah; unfold shH; have := c120h.out; have := c121h.out; have := c136h.out; first | (rw [if_pos (by omega)]; done) | (rw [if_neg (by omega), if_pos (by omega)]; done) | (rw [if_neg (by omega), if_neg (by omega)]; done)) (by rw [hC, hz9]; show _ = shM kd mx aw ah am; unfold shM; have := c120h.out; have := c121h.out; have := c136h.out; first | (rw [if_pos (by omega)]; done) | (rw [if_neg (by omega), if_pos (by omega)]; done) | (rw [if_neg (by omega), if_neg (by omega)]; done)) (by rw [hC, hz9]), by first | exact H148.out.below | exact H148.out.below'⟩
          simp [results, Try.results9, go_sem, q149, q150, q151]
         ·
          have c136a : ((kd : Int) == (4)) = false := by simpa using c136
          have c136b : ((kd : Int) != (4)) = true := by simpa using c136
          have c136h := hid c136
          clear c136
          by_cases c152 : (kd : Int) = 5
          ·
           obtain ⟨c152c, c152d⟩ : (kd : Int) ≤ 5 ∧ (5 : Int) ≤ kd := by omega
           have c152a : ((kd : Int) == (5)) = true := by simpa using c152
           have c152b : ((kd : Int) != (5)) = false := by simpa using c152
           have c152h := hid c152
           clear c152
           have z153 := H118.out.cell 3 rfl 0 (show A[0]? = some (.int .i64 kd) from by rw [HA.out]; rfl)
           go_upto_region 16 with fail
           clear z153
           have hpa := pOk_iff.1 HNb88.out
           have hb1 : 0 ≤ am * aw ∧ am * aw ≤ 549755813888 := ⟨Int.mul_nonneg (by omega) (by omega), by have := Int.mul_le_mul (show am ≤ 4294967296 by omega) (show aw ≤ 128 by omega) (by omega) (by omega); omega⟩
           have hb2 : 0 ≤ am * aw * ah ∧ am * aw * ah ≤ 70368744177664 := ⟨Int.mul_nonneg (by omega) (by omega), by have := Int.mul_le_mul hb1.2 (show ah ≤ 128 by omega) (by omega) (by omega); omega⟩
           have wm1 : IntKind.i64.wrap (am * aw) = am * aw := IntWalk.i64_in _ (by omega)
           have wm2 : IntKind.i64.wrap (am * aw * ah) = am * aw * ah := IntWalk.i64_in _ (by omega)
           clear hb1 hb2
           have z154 := H118.out.cell 2 rfl 0 rfl
           have z155 := H118.out.cell 2 rfl 1 rfl
           have z156 := H118.out.cell 2 rfl 2 rfl
           have z157 := H118.out.cell 0 rfl 0 rfl
           have z158 := H118.out.free 0 rfl 0
           have z159 := H118.out.cell 0 rfl 1 rfl
           have z160 := H118.out.free 0 rfl 1
           have z161 := H118.out.cell 0 rfl 2 rfl
           have z162 := H118.out.free 0 rfl 2
           go_wp2_with fail
           clear z154 z155 z156 z157 z158 z159 z160 z161 z162
           have H163 := hid (show St _ _ (.cells (B + 1 + 1 + 1) #[.int .i64 aw, .int .i64 ah, .int .i64 ((am * aw) * ah)] 24 :: _) _ _ from (((H118.out.set 0 rfl 0 (.int .i64 aw)).set 0 rfl 1 (.int .i64 ah)).set 0 rfl 2 (.int .i64 ((am * aw) * ah))))
           have hC : shCode (sfOk kd sb ep ef kw kh wn rn cn sh sh2 xn yn bins on mx) kd sb ep ef kw kh wl rl cl sh sh2 X Y bins ol mx aw ah am bw bh bm = c119 := by unfold shCode; rw [HNb82.out, if_neg (by decide), if_neg (fun h => h.elim (fun h => by rw [HNb88.out] at h; cases h) (fun h => by first | exact absurd (HNb92.out.symm.trans h.1) (by decide) | exact absurd (HNb98.out.symm.trans h.2) (by decide))), if_neg (fun h => by have h2 := h.2; rw [HNb109.out] at h2; cases h2)]; exact HNc119.out
           have hz9 : c119 = 0 := by have := c120h.out; have := c121h.out; have := c136h.out; have := c152h.out; omega
           have q164 := H163.out.cell 0 rfl 0 rfl
           have q165 := H163.out.cell 0 rfl 1 rfl
           have q166 := H163.out.cell 0 rfl 2 rfl
           refine bodyPost_ret (v := .tuple #[.agg #[.int .i64 aw, .int .i64 ah, .int .i64 ((am * aw) * ah)], .int .i64 0]) ?_ rfl ⟨ret_sh (by rw [hC, hz9]; show _ = shW kd xn bins aw; unfold shW; have := c120h.out; have := c121h.out; have := c136h.out; have := c152h.out; first | (rw [if_pos (by omega)]; done) | (rw [if_neg (by omega), if_pos (by omega)]; done) | (rw [if_neg (by omega), if_neg (by omega)]; done)) (by rw [hC, hz9]; show _ = shH kd yn ah; unfold shH; have := c120h.out; have := c121h.out; have := c136h.out; have := c152h.out; first | (rw [if_pos (by omega)]; done) | (rw [if_neg (by omega), if_pos (by omega)]; done) | (rw [if_neg (by omega), if_neg (by omega)]; done)) (by rw [hC, hz9]; show _ = shM kd mx aw ah am; unfold shM; have := c120h.out; have := c121h.out; have := c136h.out; have := c152h.out; first | (rw [if_pos (by omega)]; done) | (rw [if_neg (by omega), if_pos (by omega)]; done) | (rw [if_neg (by omega), if_neg (by omega)]; done)) (by rw [hC, hz9]), by first | exact H163.out.below | exact H163.out.below'⟩
           simp [results, Try.results9, go_sem, q164, q165, q166]
          ·
           have c152a : ((kd : Int) == (5)) = false := by simpa using c152
           have c152b : ((kd : Int) != (5)) = true := by simpa using c152
           have c152h := hid c152
           clear c152
           have z167 := H118.out.cell 2 rfl 0 rfl
           have z168 := H118.out.cell 2 rfl 1 rfl
           have z169 := H118.out.cell 2 rfl 2 rfl
           have z170 := H118.out.cell 0 rfl 0 rfl
           have z171 := H118.out.free 0 rfl 0
           have z172 := H118.out.cell 0 rfl 1 rfl
           have z173 := H118.out.free 0 rfl 1
           have z174 := H118.out.cell 0 rfl 2 rfl
           have z175 := H118.out.free 0 rfl 2
           have z176 := H118.out.cell 3 rfl 0 (show A[0]? = some (.int .i64 kd) from by rw [HA.out]; rfl)
           have z177 := H118.out.cell 3 rfl 17 (show A[17]? = some (.int .i64 mx) from by rw [HA.out]; rfl)
           go_wp2_with fail
           clear z167 z168 z169 z170 z171 z172 z173 z174 z175 z176 z177
           have H178 := hid (show St _ _ (.cells (B + 1 + 1 + 1) #[.int .i64 aw, .int .i64 ah, .int .i64 mx] 24 :: _) _ _ from (((H118.out.set 0 rfl 0 (.int .i64 aw)).set 0 rfl 1 (.int .i64 ah)).set 0 rfl 2 (.int .i64 mx)))
           have hC : shCode (sfOk kd sb ep ef kw kh wn rn cn sh sh2 xn yn bins on mx) kd sb ep ef kw kh wl rl cl sh sh2 X Y bins ol mx aw ah am bw bh bm = c119 := by unfold shCode; rw [HNb82.out, if_neg (by decide), if_neg (fun h => h.elim (fun h => by rw [HNb88.out] at h; cases h) (fun h => by first | exact absurd (HNb92.out.symm.trans h.1) (by decide) | exact absurd (HNb98.out.symm.trans h.2) (by decide))), if_neg (fun h => by have h2 := h.2; rw [HNb109.out] at h2; cases h2)]; exact HNc119.out
           have hz9 : c119 = 0 := by have := c120h.out; have := c121h.out; have := c136h.out; have := c152h.out; omega
           have q179 := H178.out.cell 0 rfl 0 rfl
           have q180 := H178.out.cell 0 rfl 1 rfl
           have q181 := H178.out.cell 0 rfl 2 rfl
           refine bodyPost_ret (v := .tuple #[.agg #[.int .i64 aw, .int .i64 ah, .int .i64 mx], .int .i64 0]) ?_ rfl ⟨ret_sh (by rw [hC, hz9]; show _ = shW kd xn bins aw; unfold shW; have := c120h.out; have := c121h.out; have := c136h.out; have := c152h.out; first | (rw [if_pos (by omega)]; done) | (rw [if_neg (by omega), if_pos (by omega)]; done) | (rw [if_neg (by omega), if_neg (by omega)]; done)) (by rw [hC, hz9]; show _ = shH kd yn ah; unfold shH; have := c120h.out; have := c121h.out; have := c136h.out; have := c152h.out; first | (rw [if_pos (by omega)]; done) | (rw [if_neg (by omega), if_pos (by omega)]; done) | (rw [if_neg (by omega), if_neg (by omega)]; done)) (by rw [hC, hz9]; show _ = shM kd mx aw ah am; unfold shM; have := c120h.out; have := c121h.out; have := c136h.out; have := c152h.out; first | (rw [if_pos (by omega)]; done) | (rw [if_neg (by omega), if_pos (by omega)]; done) | (rw [if_neg (by omega), if_neg (by omega)]; done)) (by rw [hC, hz9]), by first | exact H178.out.below | exact H178.out.below'⟩
           simp [results, Try.results9, go_sem, q179, q180, q181]
       ·
        have c120a : ((c119 : Int) == (0)) = false := by simpa using c120
        have c120b : ((c119 : Int) != (0)) = true := by simpa using c120
        have c120h := hid c120
        clear c120
        have z182 := H118.out.cell 0 rfl 0 rfl
        have z183 := H118.out.free 0 rfl 0
        have z184 := H118.out.cell 0 rfl 1 rfl
        have z185 := H118.out.free 0 rfl 1
        have z186 := H118.out.cell 0 rfl 2 rfl
        have z187 := H118.out.free 0 rfl 2
        go_wp2_with fail
        clear z182 z183 z184 z185 z186 z187
        have H188 := hid (show St _ _ (.cells (B + 1 + 1 + 1) #[.int .i64 0, .int .i64 0, .int .i64 0] 24 :: _) _ _ from (((H118.out.set 0 rfl 0 (.int .i64 0)).set 0 rfl 1 (.int .i64 0)).set 0 rfl 2 (.int .i64 0)))
        have hC : shCode (sfOk kd sb ep ef kw kh wn rn cn sh sh2 xn yn bins on mx) kd sb ep ef kw kh wl rl cl sh sh2 X Y bins ol mx aw ah am bw bh bm = c119 := by unfold shCode; rw [HNb82.out, if_neg (by decide), if_neg (fun h => h.elim (fun h => by rw [HNb88.out] at h; cases h) (fun h => by first | exact absurd (HNb92.out.symm.trans h.1) (by decide) | exact absurd (HNb98.out.symm.trans h.2) (by decide))), if_neg (fun h => by have h2 := h.2; rw [HNb109.out] at h2; cases h2)]; exact HNc119.out
        have q189 := H188.out.cell 0 rfl 0 rfl
        have q190 := H188.out.cell 0 rfl 1 rfl
        have q191 := H188.out.cell 0 rfl 2 rfl
        refine bodyPost_ret (v := .tuple #[.agg #[.int .i64 0, .int .i64 0, .int .i64 0], .int .i64 c119]) ?_ rfl ⟨ret_sh (by rw [hC]; exact (if_neg (by have := c120h.out; omega)).symm) (by rw [hC]; exact (if_neg (by have := c120h.out; omega)).symm) (by rw [hC]; exact (if_neg (by have := c120h.out; omega)).symm) hC.symm, by first | exact H188.out.below | exact H188.out.below'⟩
        simp [results, Try.results9, go_sem, q189, q190, q191]
      | false =>
       have z192 := H108.out.cell 0 rfl 0 rfl
       have z193 := H108.out.free 0 rfl 0
       have z194 := H108.out.cell 0 rfl 1 rfl
       have z195 := H108.out.free 0 rfl 1
       have z196 := H108.out.cell 0 rfl 2 rfl
       have z197 := H108.out.free 0 rfl 2
       go_wp2_with fail
       clear z192 z193 z194 z195 z196 z197
       have H198 := hid (show St _ _ (.cells (B + 1 + 1 + 1) #[.int .i64 0, .int .i64 0, .int .i64 0] 24 :: _) _ _ from (((H108.out.set 0 rfl 0 (.int .i64 0)).set 0 rfl 1 (.int .i64 0)).set 0 rfl 2 (.int .i64 0)))
       have hC : shCode (sfOk kd sb ep ef kw kh wn rn cn sh sh2 xn yn bins on mx) kd sb ep ef kw kh wl rl cl sh sh2 X Y bins ol mx aw ah am bw bh bm = 1 := by unfold shCode; rw [HNb82.out, if_neg (by decide), if_neg (fun h => h.elim (fun h => by rw [HNb88.out] at h; cases h) (fun h => by first | exact absurd (HNb92.out.symm.trans h.1) (by decide) | exact absurd (HNb98.out.symm.trans h.2) (by decide))), if_pos ⟨(by have h9 := HNb101.out; unfold edOk at h9; simp at h9; omega), HNb109.out⟩]
       have q199 := H198.out.cell 0 rfl 0 rfl
       have q200 := H198.out.cell 0 rfl 1 rfl
       have q201 := H198.out.cell 0 rfl 2 rfl
       refine bodyPost_ret (v := .tuple #[.agg #[.int .i64 0, .int .i64 0, .int .i64 0], .int .i64 1]) ?_ rfl ⟨ret_sh (by rw [hC]; rfl) (by rw [hC]; rfl) (by rw [hC]; rfl) hC.symm, by first | exact H198.out.below | exact H198.out.below'⟩
       simp [results, Try.results9, go_sem, q199, q200, q201]
     | false =>
      have z202 := H97.out.cell 2 rfl 0 rfl
      have z203 := H97.out.cell 2 rfl 1 rfl
      have z204 := H97.out.cell 2 rfl 2 rfl
      have z205 := H97.out.cell 1 rfl 0 rfl
      have z206 := H97.out.cell 1 rfl 1 rfl
      have z207 := H97.out.cell 1 rfl 2 rfl
      have z208 := H97.out.loadStg 3 rfl (by rw [HA.out]; rfl)
      go_wp2_with (refine loadArm z208 (by rfl) (by rfl) ?_)
      clear z202 z203 z204 z205 z206 z207 z208
      refine (shcheck_any HA.out wl rl cl X Y ol aw ah am bw bh bm _ (H97.out.old HWL.out) (H97.out.old HRL.out) (H97.out.old HCL.out) (H97.out.oldTps HX.out) (H97.out.oldTps HY.out) (H97.out.oldPrs HO.out)).mono ?_
      rintro e w209 ⟨rfl, hb⟩
      have H210 := hid (H97.out.call hb)
      clear hb
      obtain ⟨c211, hc211⟩ : ∃ xx', shCk kd sb kw kh wl rl cl sh sh2 X Y bins ol mx aw ah am bw bh bm = xx' := ⟨_, rfl⟩
      rw [hc211]
      have HNc211 := hid hc211
      clear hc211
      by_cases c212 : (c211 : Int) = 0
      ·
       obtain ⟨c212c, c212d⟩ : (c211 : Int) ≤ 0 ∧ (0 : Int) ≤ c211 := by omega
       have c212a : ((c211 : Int) == (0)) = true := by simpa using c212
       have c212b : ((c211 : Int) != (0)) = false := by simpa using c212
       have c212h := hid c212
       clear c212
       by_cases c213 : (kd : Int) = 3
       ·
        obtain ⟨c213c, c213d⟩ : (kd : Int) ≤ 3 ∧ (3 : Int) ≤ kd := by omega
        have c213a : ((kd : Int) == (3)) = true := by simpa using c213
        have c213b : ((kd : Int) != (3)) = false := by simpa using c213
        have c213h := hid c213
        clear c213
        have z214 := H210.out.cell 0 rfl 0 rfl
        have z215 := H210.out.free 0 rfl 0
        have z216 := H210.out.cell 0 rfl 1 rfl
        have z217 := H210.out.free 0 rfl 1
        have z218 := H210.out.cell 0 rfl 2 rfl
        have z219 := H210.out.free 0 rfl 2
        have z220 := H210.out.cell 3 rfl 0 (show A[0]? = some (.int .i64 kd) from by rw [HA.out]; rfl)
        have z221 := H210.out.cell 3 rfl 13 (show A[13]? = some (.slice xa xn xc) from by rw [HA.out]; rfl)
        have z222 := H210.out.cell 3 rfl 14 (show A[14]? = some (.slice ya yn yc) from by rw [HA.out]; rfl)
        have z223 := H210.out.cell 3 rfl 17 (show A[17]? = some (.int .i64 mx) from by rw [HA.out]; rfl)
        go_wp2_with fail
        clear z214 z215 z216 z217 z218 z219 z220 z221 z222 z223
        have H224 := hid (show St _ _ (.cells (B + 1 + 1 + 1) #[.int .i64 xn, .int .i64 yn, .int .i64 mx] 24 :: _) _ _ from (((H210.out.set 0 rfl 0 (.int .i64 xn)).set 0 rfl 1 (.int .i64 yn)).set 0 rfl 2 (.int .i64 mx)))
        have hC : shCode (sfOk kd sb ep ef kw kh wn rn cn sh sh2 xn yn bins on mx) kd sb ep ef kw kh wl rl cl sh sh2 X Y bins ol mx aw ah am bw bh bm = c211 := by unfold shCode; rw [HNb82.out, if_neg (by decide), if_neg (fun h => h.elim (fun h => by rw [HNb88.out] at h; cases h) (fun h => by first | exact absurd (HNb92.out.symm.trans h.1) (by decide) | exact absurd (HNb98.out.symm.trans h.2) (by decide))), if_neg (fun h => by have h1 := h.1; have h9 := HNb101.out; have h8 := sf_kd HNb82.out; unfold edOk at h9; simp at h9; omega)]; exact HNc211.out
        have hz9 : c211 = 0 := by have := c212h.out; have := c213h.out; omega
        have q225 := H224.out.cell 0 rfl 0 rfl
        have q226 := H224.out.cell 0 rfl 1 rfl
        have q227 := H224.out.cell 0 rfl 2 rfl
        refine bodyPost_ret (v := .tuple #[.agg #[.int .i64 xn, .int .i64 yn, .int .i64 mx], .int .i64 0]) ?_ rfl ⟨ret_sh (by rw [hC, hz9]; show _ = shW kd xn bins aw; unfold shW; have := c212h.out; have := c213h.out; first | (rw [if_pos (by omega)]; done) | (rw [if_neg (by omega), if_pos (by omega)]; done) | (rw [if_neg (by omega), if_neg (by omega)]; done)) (by rw [hC, hz9]; show _ = shH kd yn ah; unfold shH; have := c212h.out; have := c213h.out; first | (rw [if_pos (by omega)]; done) | (rw [if_neg (by omega), if_pos (by omega)]; done) | (rw [if_neg (by omega), if_neg (by omega)]; done)) (by rw [hC, hz9]; show _ = shM kd mx aw ah am; unfold shM; have := c212h.out; have := c213h.out; first | (rw [if_pos (by omega)]; done) | (rw [if_neg (by omega), if_pos (by omega)]; done) | (rw [if_neg (by omega), if_neg (by omega)]; done)) (by rw [hC, hz9]), by first | exact H224.out.below | exact H224.out.below'⟩
        simp [results, Try.results9, go_sem, q225, q226, q227]
       ·
        have c213a : ((kd : Int) == (3)) = false := by simpa using c213
        have c213b : ((kd : Int) != (3)) = true := by simpa using c213
        have c213h := hid c213
        clear c213
        by_cases c228 : (kd : Int) = 4
        ·
         obtain ⟨c228c, c228d⟩ : (kd : Int) ≤ 4 ∧ (4 : Int) ≤ kd := by omega
         have c228a : ((kd : Int) == (4)) = true := by simpa using c228
         have c228b : ((kd : Int) != (4)) = false := by simpa using c228
         have c228h := hid c228
         clear c228
         have z229 := H210.out.cell 3 rfl 0 (show A[0]? = some (.int .i64 kd) from by rw [HA.out]; rfl)
         go_upto_region 14 with fail
         clear z229
         have hpa := pOk_iff.1 HNb88.out
         have haw : 0 ≤ aw * ah := Int.mul_nonneg (by omega) (by omega)
         have wm1 : IntKind.i64.wrap (aw * ah) = aw * ah := IntWalk.i64_in _ (by omega)
         have z230 := H210.out.cell 2 rfl 0 rfl
         have z231 := H210.out.cell 2 rfl 1 rfl
         have z232 := H210.out.cell 2 rfl 2 rfl
         have z233 := H210.out.cell 0 rfl 0 rfl
         have z234 := H210.out.free 0 rfl 0
         have z235 := H210.out.cell 0 rfl 1 rfl
         have z236 := H210.out.free 0 rfl 1
         have z237 := H210.out.cell 0 rfl 2 rfl
         have z238 := H210.out.free 0 rfl 2
         have z239 := H210.out.cell 3 rfl 15 (show A[15]? = some (.int .i64 bins) from by rw [HA.out]; rfl)
         go_wp2_with fail
         clear z230 z231 z232 z233 z234 z235 z236 z237 z238 z239
         have H240 := hid (show St _ _ (.cells (B + 1 + 1 + 1) #[.int .i64 bins, .int .i64 1, .int .i64 (aw * ah)] 24 :: _) _ _ from (((H210.out.set 0 rfl 0 (.int .i64 bins)).set 0 rfl 1 (.int .i64 1)).set 0 rfl 2 (.int .i64 (aw * ah))))
         have hC : shCode (sfOk kd sb ep ef kw kh wn rn cn sh sh2 xn yn bins on mx) kd sb ep ef kw kh wl rl cl sh sh2 X Y bins ol mx aw ah am bw bh bm = c211 := by unfold shCode; rw [HNb82.out, if_neg (by decide), if_neg (fun h => h.elim (fun h => by rw [HNb88.out] at h; cases h) (fun h => by first | exact absurd (HNb92.out.symm.trans h.1) (by decide) | exact absurd (HNb98.out.symm.trans h.2) (by decide))), if_neg (fun h => by have h1 := h.1; have h9 := HNb101.out; have h8 := sf_kd HNb82.out; unfold edOk at h9; simp at h9; omega)]; exact HNc211.out
         have hz9 : c211 = 0 := by have := c212h.out; have := c213h.out; have := c228h.out; omega
         have q241 := H240.out.cell 0 rfl 0 rfl
         have q242 := H240.out.cell 0 rfl 1 rfl
         have q243 := H240.out.cell 0 rfl 2 rfl
         refine bodyPost_ret (v := .tuple #[.agg #[.int .i64 bins, .int .i64 1, .int .i64 (aw * ah)], .int .i64 0]) ?_ rfl ⟨ret_sh (by rw [hC, hz9]; show _ = shW kd xn bins aw; unfold shW; have := c212h.out; have := c213h.out; have := c228h.out; first | (rw [if_pos (by omega)]; done) | (rw [if_neg (by omega), if_pos (by omega)]; done) | (rw [if_neg (by omega), if_neg (by omega)]; done)) (by rw [hC, hz9]; show _ = shH kd yn ah; unfold shH; have := c212h.out; have := c213h.out; have := c228h.out; first | (rw [if_pos (by omega)]; done) | (rw [if_neg (by omega), if_pos (by omega)]; done) | (rw [if_neg (by omega), if_neg (by omega)]; done)) (by rw [hC, hz9]; show _ = shM kd mx aw ah am; unfold shM; have := c212h.out; have := c213h.out; have := c228h.out; first | (rw [if_pos (by omega)]; done) | (rw [if_neg (by omega), if_pos (by omega)]; done) | (rw [if_neg (by omega), if_neg (by omega)]; done)) (by rw [hC, hz9]), by first | exact H240.out.below | exact H240.out.below'⟩
         simp [results, Try.results9, go_sem, q241, q242, q243]
        ·
         have c228a : ((kd : Int) == (4)) = false := by simpa using c228
         have c228b : ((kd : Int) != (4)) = true := by simpa using c228
         have c228h := hid c228
         clear c228
         by_cases c244 : (kd : Int) = 5
         ·
          obtain ⟨c244c, c244d⟩ : (kd : Int) ≤ 5 ∧ (5 : Int) ≤ kd := by omega
          have c244a : ((kd : Int) == (5)) = true := by simpa using c244
          have c244b : ((kd : Int) != (5)) = false := by simpa using c244
          have c244h := hid c244
          clear c244
          have z245 := H210.out.cell 3 rfl 0 (show A[0]? = some (.int .i64 kd) from by rw [HA.out]; rfl)
          go_upto_region 16 with fail
          clear z245
          have hpa := pOk_iff.1 HNb88.out
          have hb1 : 0 ≤ am * aw ∧ am * aw ≤ 549755813888 := ⟨Int.mul_nonneg (by omega) (by omega), by have := Int.mul_le_mul (show am ≤ 4294967296 by omega) (show aw ≤ 128 by omega) (by omega) (by omega); omega⟩
          have hb2 : 0 ≤ am * aw * ah ∧ am * aw * ah ≤ 70368744177664 := ⟨Int.mul_nonneg (by omega) (by omega), by have := Int.mul_le_mul hb1.2 (show ah ≤ 128 by omega) (by omega) (by omega); omega⟩
          have wm1 : IntKind.i64.wrap (am * aw) = am * aw := IntWalk.i64_in _ (by omega)
          have wm2 : IntKind.i64.wrap (am * aw * ah) = am * aw * ah := IntWalk.i64_in _ (by omega)
          clear hb1 hb2
          have z246 := H210.out.cell 2 rfl 0 rfl
          have z247 := H210.out.cell 2 rfl 1 rfl
          have z248 := H210.out.cell 2 rfl 2 rfl
          have z249 := H210.out.cell 0 rfl 0 rfl
          have z250 := H210.out.free 0 rfl 0
          have z251 := H210.out.cell 0 rfl 1 rfl
          have z252 := H210.out.free 0 rfl 1
          have z253 := H210.out.cell 0 rfl 2 rfl
          have z254 := H210.out.free 0 rfl 2
          go_wp2_with fail
          clear z246 z247 z248 z249 z250 z251 z252 z253 z254
          have H255 := hid (show St _ _ (.cells (B + 1 + 1 + 1) #[.int .i64 aw, .int .i64 ah, .int .i64 ((am * aw) * ah)] 24 :: _) _ _ from (((H210.out.set 0 rfl 0 (.int .i64 aw)).set 0 rfl 1 (.int .i64 ah)).set 0 rfl 2 (.int .i64 ((am * aw) * ah))))
          have hC : shCode (sfOk kd sb ep ef kw kh wn rn cn sh sh2 xn yn bins on mx) kd sb ep ef kw kh wl rl cl sh sh2 X Y bins ol mx aw ah am bw bh bm = c211 := by unfold shCode; rw [HNb82.out, if_neg (by decide), if_neg (fun h => h.elim (fun h => by rw [HNb88.out] at h; cases h) (fun h => by first | exact absurd (HNb92.out.symm.trans h.1) (by decide) | exact absurd (HNb98.out.symm.trans h.2) (by decide))), if_neg (fun h => by have h1 := h.1; have h9 := HNb101.out; have h8 := sf_kd HNb82.out; unfold edOk at h9; simp at h9; omega)]; exact HNc211.out
          have hz9 : c211 = 0 := by have := c212h.out; have := c213h.out; have := c228h.out; have := c244h.out; omega
          have q256 := H255.out.cell 0 rfl 0 rfl
          have q257 := H255.out.cell 0 rfl 1 rfl
          have q258 := H255.out.cell 0 rfl 2 rfl
          refine bodyPost_ret (v := .tuple #[.agg #[.int .i64 aw, .int .i64 ah, .int .i64 ((am * aw) * ah)], .int .i64 0]) ?_ rfl ⟨ret_sh (by rw [hC, hz9]; show _ = shW kd xn bins aw; unfold shW; have := c212h.out; have := c213h.out; have := c228h.out; have := c244h.out; first | (rw [if_pos (by omega)]; done) | (rw [if_neg (by omega), if_pos (by omega)]; done) | (rw [if_neg (by omega), if_neg (by omega)]; done)) (by rw [hC, hz9]; show _ = shH kd yn ah; unfold shH; have := c212h.out; have := c213h.out; have := c228h.out; have := c244h.out; first | (rw [if_pos (by omega)]; done) | (rw [if_neg (by omega), if_pos (by omega)]; done) | (rw [if_neg (by omega), if_neg (by omega)]; done)) (by rw [hC, hz9]; show _ = shM kd mx aw ah am; unfold shM; have := c212h.out; have := c213h.out; have := c228h.out; have := c244h.out; first | (rw [if_pos (by omega)]; done) | (rw [if_neg (by omega), if_pos (by omega)]; done) | (rw [if_neg (by omega), if_neg (by omega)]; done)) (by rw [hC, hz9]), by first | exact H255.out.below | exact H255.out.below'⟩
          simp [results, Try.results9, go_sem, q256, q257, q258]
         ·
          have c244a : ((kd : Int) == (5)) = false := by simpa using c244
          have c244b : ((kd : Int) != (5)) = true := by simpa using c244
          have c244h := hid c244
          clear c244
          have z259 := H210.out.cell 2 rfl 0 rfl
          have z260 := H210.out.cell 2 rfl 1 rfl
          have z261 := H210.out.cell 2 rfl 2 rfl
          have z262 := H210.out.cell 0 rfl 0 rfl
          have z263 := H210.out.free 0 rfl 0
          have z264 := H210.out.cell 0 rfl 1 rfl
          have z265 := H210.out.free 0 rfl 1
          have z266 := H210.out.cell 0 rfl 2 rfl
          have z267 := H210.out.free 0 rfl 2
          have z268 := H210.out.cell 3 rfl 0 (show A[0]? = some (.int .i64 kd) from by rw [HA.out]; rfl)
          have z269 := H210.out.cell 3 rfl 17 (show A[17]? = some (.int .i64 mx) from by rw [HA.out]; rfl)
          go_wp2_with fail
          clear z259 z260 z261 z262 z263 z264 z265 z266 z267 z268 z269
          have H270 := hid (show St _ _ (.cells (B + 1 + 1 + 1) #[.int .i64 aw, .int .i64 ah, .int .i64 mx] 24 :: _) _ _ from (((H210.out.set 0 rfl 0 (.int .i64 aw)).set 0 rfl 1 (.int .i64 ah)).set 0 rfl 2 (.int .i64 mx)))
          have hC : shCode (sfOk kd sb ep ef kw kh wn rn cn sh sh2 xn yn bins on mx) kd sb ep ef kw kh wl rl cl sh sh2 X Y bins ol mx aw ah am bw bh bm = c211 := by unfold shCode; rw [HNb82.out, if_neg (by decide), if_neg (fun h => h.elim (fun h => by rw [HNb88.out] at h; cases h) (fun h => by first | exact absurd (HNb92.out.symm.trans h.1) (by decide) | exact absurd (HNb98.out.symm.trans h.2) (by decide))), if_neg (fun h => by have h1 := h.1; have h9 := HNb101.out; have h8 := sf_kd HNb82.out; unfold edOk at h9; simp at h9; omega)]; exact HNc211.out
          have hz9 : c211 = 0 := by have := c212h.out; have := c213h.out; have := c228h.out; have := c244h.out; omega
          have q271 := H270.out.cell 0 rfl 0 rfl
          have q272 := H270.out.cell 0 rfl 1 rfl
          have q273 := H270.out.cell 0 rfl 2 rfl
          refine bodyPost_ret (v := .tuple #[.agg #[.int .i64 aw, .int .i64 ah, .int .i64 mx], .int .i64 0]) ?_ rfl ⟨ret_sh (by rw [hC, hz9]; show _ = shW kd xn bins aw; unfold shW; have := c212h.out; have := c213h.out; have := c228h.out; have := c244h.out; first | (rw [if_pos (by omega)]; done) | (rw [if_neg (by omega), if_pos (by omega)]; done) | (rw [if_neg (by omega), if_neg (by omega)]; done)) (by rw [hC, hz9]; show _ = shH kd yn ah; unfold shH; have := c212h.out; have := c213h.out; have := c228h.out; have := c244h.out; first | (rw [if_pos (by omega)]; done) | (rw [if_neg (by omega), if_pos (by omega)]; done) | (rw [if_neg (by omega), if_neg (by omega)]; done)) (by rw [hC, hz9]; show _ = shM kd mx aw ah am; unfold shM; have := c212h.out; have := c213h.out; have := c228h.out; have := c244h.out; first | (rw [if_pos (by omega)]; done) | (rw [if_neg (by omega), if_pos (by omega)]; done) | (rw [if_neg (by omega), if_neg (by omega)]; done)) (by rw [hC, hz9]), by first | exact H270.out.below | exact H270.out.below'⟩
          simp [results, Try.results9, go_sem, q271, q272, q273]
      ·
       have c212a : ((c211 : Int) == (0)) = false := by simpa using c212
       have c212b : ((c211 : Int) != (0)) = true := by simpa using c212
       have c212h := hid c212
       clear c212
       have z274 := H210.out.cell 0 rfl 0 rfl
       have z275 := H210.out.free 0 rfl 0
       have z276 := H210.out.cell 0 rfl 1 rfl
       have z277 := H210.out.free 0 rfl 1
       have z278 := H210.out.cell 0 rfl 2 rfl
       have z279 := H210.out.free 0 rfl 2
       go_wp2_with fail
       clear z274 z275 z276 z277 z278 z279
       have H280 := hid (show St _ _ (.cells (B + 1 + 1 + 1) #[.int .i64 0, .int .i64 0, .int .i64 0] 24 :: _) _ _ from (((H210.out.set 0 rfl 0 (.int .i64 0)).set 0 rfl 1 (.int .i64 0)).set 0 rfl 2 (.int .i64 0)))
       have hC : shCode (sfOk kd sb ep ef kw kh wn rn cn sh sh2 xn yn bins on mx) kd sb ep ef kw kh wl rl cl sh sh2 X Y bins ol mx aw ah am bw bh bm = c211 := by unfold shCode; rw [HNb82.out, if_neg (by decide), if_neg (fun h => h.elim (fun h => by rw [HNb88.out] at h; cases h) (fun h => by first | exact absurd (HNb92.out.symm.trans h.1) (by decide) | exact absurd (HNb98.out.symm.trans h.2) (by decide))), if_neg (fun h => by have h1 := h.1; have h9 := HNb101.out; have h8 := sf_kd HNb82.out; unfold edOk at h9; simp at h9; omega)]; exact HNc211.out
       have q281 := H280.out.cell 0 rfl 0 rfl
       have q282 := H280.out.cell 0 rfl 1 rfl
       have q283 := H280.out.cell 0 rfl 2 rfl
       refine bodyPost_ret (v := .tuple #[.agg #[.int .i64 0, .int .i64 0, .int .i64 0], .int .i64 c211]) ?_ rfl ⟨ret_sh (by rw [hC]; exact (if_neg (by have := c212h.out; omega)).symm) (by rw [hC]; exact (if_neg (by have := c212h.out; omega)).symm) (by rw [hC]; exact (if_neg (by have := c212h.out; omega)).symm) hC.symm, by first | exact H280.out.below | exact H280.out.below'⟩
       simp [results, Try.results9, go_sem, q281, q282, q283]
    | false =>
     have z284 := H97.out.cell 0 rfl 0 rfl
     have z285 := H97.out.free 0 rfl 0
     have z286 := H97.out.cell 0 rfl 1 rfl
     have z287 := H97.out.free 0 rfl 1
     have z288 := H97.out.cell 0 rfl 2 rfl
     have z289 := H97.out.free 0 rfl 2
     go_wp2_with fail
     clear z284 z285 z286 z287 z288 z289
     have H290 := hid (show St _ _ (.cells (B + 1 + 1 + 1) #[.int .i64 0, .int .i64 0, .int .i64 0] 24 :: _) _ _ from (((H97.out.set 0 rfl 0 (.int .i64 0)).set 0 rfl 1 (.int .i64 0)).set 0 rfl 2 (.int .i64 0)))
     have hC : shCode (sfOk kd sb ep ef kw kh wn rn cn sh sh2 xn yn bins on mx) kd sb ep ef kw kh wl rl cl sh sh2 X Y bins ol mx aw ah am bw bh bm = 2 := by unfold shCode; rw [HNb82.out, if_neg (by decide), if_pos (.inr ⟨HNb92.out, HNb98.out⟩)]
     have q291 := H290.out.cell 0 rfl 0 rfl
     have q292 := H290.out.cell 0 rfl 1 rfl
     have q293 := H290.out.cell 0 rfl 2 rfl
     refine bodyPost_ret (v := .tuple #[.agg #[.int .i64 0, .int .i64 0, .int .i64 0], .int .i64 2]) ?_ rfl ⟨ret_sh (by rw [hC]; rfl) (by rw [hC]; rfl) (by rw [hC]; rfl) hC.symm, by first | exact H290.out.below | exact H290.out.below'⟩
     simp [results, Try.results9, go_sem, q291, q292, q293]
   | false =>
    have z294 := H91.out.cell 3 rfl 0 (show A[0]? = some (.int .i64 kd) from by rw [HA.out]; rfl)
    go_wp2_with fail
    clear z294
    refine (edged_any _ _).mono ?_
    rintro e w295 ⟨rfl, hsw⟩
    have hsw2 : w90 = w295 := by first | exact hsw | exact hsw.symm
    clear hsw
    subst hsw2
    obtain ⟨b296, hb296⟩ : ∃ xx', edOk kd = xx' := ⟨_, rfl⟩
    rw [hb296]
    have HNb296 := hid hb296
    clear hb296
    cases b296 with
    | true =>
     have z297 := H91.out.cell 2 rfl 0 rfl
     have z298 := H91.out.cell 2 rfl 1 rfl
     have z299 := H91.out.cell 2 rfl 2 rfl
     have z300 := H91.out.cell 3 rfl 4 (show A[4]? = some (.int .i64 ep) from by rw [HA.out]; rfl)
     have z301 := H91.out.cell 3 rfl 5 (show A[5]? = some (.int .i64 ef) from by rw [HA.out]; rfl)
     go_wp2_with fail
     clear z297 z298 z299 z300 z301
     refine (bvalid_any _ _ _ _).mono ?_
     rintro e w302 ⟨rfl, hb⟩
     have H303 := hid (H91.out.call hb)
     clear hb
     obtain ⟨b304, hb304⟩ : ∃ xx', bValid ep ef am = xx' := ⟨_, rfl⟩
     rw [hb304]
     have HNb304 := hid hb304
     clear hb304
     cases b304 with
     | true =>
      have z305 := H303.out.cell 2 rfl 0 rfl
      have z306 := H303.out.cell 2 rfl 1 rfl
      have z307 := H303.out.cell 2 rfl 2 rfl
      have z308 := H303.out.cell 1 rfl 0 rfl
      have z309 := H303.out.cell 1 rfl 1 rfl
      have z310 := H303.out.cell 1 rfl 2 rfl
      have z311 := H303.out.loadStg 3 rfl (by rw [HA.out]; rfl)
      go_wp2_with (refine loadArm z311 (by rfl) (by rfl) ?_)
      clear z305 z306 z307 z308 z309 z310 z311
      refine (shcheck_any HA.out wl rl cl X Y ol aw ah am bw bh bm _ (H303.out.old HWL.out) (H303.out.old HRL.out) (H303.out.old HCL.out) (H303.out.oldTps HX.out) (H303.out.oldTps HY.out) (H303.out.oldPrs HO.out)).mono ?_
      rintro e w312 ⟨rfl, hb⟩
      have H313 := hid (H303.out.call hb)
      clear hb
      obtain ⟨c314, hc314⟩ : ∃ xx', shCk kd sb kw kh wl rl cl sh sh2 X Y bins ol mx aw ah am bw bh bm = xx' := ⟨_, rfl⟩
      rw [hc314]
      have HNc314 := hid hc314
      clear hc314
      by_cases c315 : (c314 : Int) = 0
      ·
       obtain ⟨c315c, c315d⟩ : (c314 : Int) ≤ 0 ∧ (0 : Int) ≤ c314 := by omega
       have c315a : ((c314 : Int) == (0)) = true := by simpa using c315
       have c315b : ((c314 : Int) != (0)) = false := by simpa using c315
       have c315h := hid c315
       clear c315
       by_cases c316 : (kd : Int) = 3
       ·
        obtain ⟨c316c, c316d⟩ : (kd : Int) ≤ 3 ∧ (3 : Int) ≤ kd := by omega
        have c316a : ((kd : Int) == (3)) = true := by simpa using c316
        have c316b : ((kd : Int) != (3)) = false := by simpa using c316
        have c316h := hid c316
        clear c316
        have z317 := H313.out.cell 0 rfl 0 rfl
        have z318 := H313.out.free 0 rfl 0
        have z319 := H313.out.cell 0 rfl 1 rfl
        have z320 := H313.out.free 0 rfl 1
        have z321 := H313.out.cell 0 rfl 2 rfl
        have z322 := H313.out.free 0 rfl 2
        have z323 := H313.out.cell 3 rfl 0 (show A[0]? = some (.int .i64 kd) from by rw [HA.out]; rfl)
        have z324 := H313.out.cell 3 rfl 13 (show A[13]? = some (.slice xa xn xc) from by rw [HA.out]; rfl)
        have z325 := H313.out.cell 3 rfl 14 (show A[14]? = some (.slice ya yn yc) from by rw [HA.out]; rfl)
        have z326 := H313.out.cell 3 rfl 17 (show A[17]? = some (.int .i64 mx) from by rw [HA.out]; rfl)
        go_wp2_with fail
        clear z317 z318 z319 z320 z321 z322 z323 z324 z325 z326
        have H327 := hid (show St _ _ (.cells (B + 1 + 1 + 1) #[.int .i64 xn, .int .i64 yn, .int .i64 mx] 24 :: _) _ _ from (((H313.out.set 0 rfl 0 (.int .i64 xn)).set 0 rfl 1 (.int .i64 yn)).set 0 rfl 2 (.int .i64 mx)))
        have hC : shCode (sfOk kd sb ep ef kw kh wn rn cn sh sh2 xn yn bins on mx) kd sb ep ef kw kh wl rl cl sh sh2 X Y bins ol mx aw ah am bw bh bm = c314 := by unfold shCode; rw [HNb82.out, if_neg (by decide), if_neg (fun h => h.elim (fun h => by rw [HNb88.out] at h; cases h) (fun h => by first | exact absurd (HNb92.out.symm.trans h.1) (by decide))), if_neg (fun h => by have h2 := h.2; rw [HNb304.out] at h2; cases h2)]; exact HNc314.out
        have hz9 : c314 = 0 := by have := c315h.out; have := c316h.out; omega
        have q328 := H327.out.cell 0 rfl 0 rfl
        have q329 := H327.out.cell 0 rfl 1 rfl
        have q330 := H327.out.cell 0 rfl 2 rfl
        refine bodyPost_ret (v := .tuple #[.agg #[.int .i64 xn, .int .i64 yn, .int .i64 mx], .int .i64 0]) ?_ rfl ⟨ret_sh (by rw [hC, hz9]; show _ = shW kd xn bins aw; unfold shW; have := c315h.out; have := c316h.out; first | (rw [if_pos (by omega)]; done) | (rw [if_neg (by omega), if_pos (by omega)]; done) | (rw [if_neg (by omega), if_neg (by omega)]; done)) (by rw [hC, hz9]; show _ = shH kd yn ah; unfold shH; have := c315h.out; have := c316h.out; first | (rw [if_pos (by omega)]; done) | (rw [if_neg (by omega), if_pos (by omega)]; done) | (rw [if_neg (by omega), if_neg (by omega)]; done)) (by rw [hC, hz9]; show _ = shM kd mx aw ah am; unfold shM; have := c315h.out; have := c316h.out; first | (rw [if_pos (by omega)]; done) | (rw [if_neg (by omega), if_pos (by omega)]; done) | (rw [if_neg (by omega), if_neg (by omega)]; done)) (by rw [hC, hz9]), by first | exact H327.out.below | exact H327.out.below'⟩
        simp [results, Try.results9, go_sem, q328, q329, q330]
       ·
        have c316a : ((kd : Int) == (3)) = false := by simpa using c316
        have c316b : ((kd : Int) != (3)) = true := by simpa using c316
        have c316h := hid c316
        clear c316
        by_cases c331 : (kd : Int) = 4
        ·
         obtain ⟨c331c, c331d⟩ : (kd : Int) ≤ 4 ∧ (4 : Int) ≤ kd := by omega
         have c331a : ((kd : Int) == (4)) = true := by simpa using c331
         have c331b : ((kd : Int) != (4)) = false := by simpa using c331
         have c331h := hid c331
         clear c331
         have z332 := H313.out.cell 3 rfl 0 (show A[0]? = some (.int .i64 kd) from by rw [HA.out]; rfl)
         go_upto_region 14 with fail
         clear z332
         have hpa := pOk_iff.1 HNb88.out
         have haw : 0 ≤ aw * ah := Int.mul_nonneg (by omega) (by omega)
         have wm1 : IntKind.i64.wrap (aw * ah) = aw * ah := IntWalk.i64_in _ (by omega)
         have z333 := H313.out.cell 2 rfl 0 rfl
         have z334 := H313.out.cell 2 rfl 1 rfl
         have z335 := H313.out.cell 2 rfl 2 rfl
         have z336 := H313.out.cell 0 rfl 0 rfl
         have z337 := H313.out.free 0 rfl 0
         have z338 := H313.out.cell 0 rfl 1 rfl
         have z339 := H313.out.free 0 rfl 1
         have z340 := H313.out.cell 0 rfl 2 rfl
         have z341 := H313.out.free 0 rfl 2
         have z342 := H313.out.cell 3 rfl 15 (show A[15]? = some (.int .i64 bins) from by rw [HA.out]; rfl)
         go_wp2_with fail
         clear z333 z334 z335 z336 z337 z338 z339 z340 z341 z342
         have H343 := hid (show St _ _ (.cells (B + 1 + 1 + 1) #[.int .i64 bins, .int .i64 1, .int .i64 (aw * ah)] 24 :: _) _ _ from (((H313.out.set 0 rfl 0 (.int .i64 bins)).set 0 rfl 1 (.int .i64 1)).set 0 rfl 2 (.int .i64 (aw * ah))))
         have hC : shCode (sfOk kd sb ep ef kw kh wn rn cn sh sh2 xn yn bins on mx) kd sb ep ef kw kh wl rl cl sh sh2 X Y bins ol mx aw ah am bw bh bm = c314 := by unfold shCode; rw [HNb82.out, if_neg (by decide), if_neg (fun h => h.elim (fun h => by rw [HNb88.out] at h; cases h) (fun h => by first | exact absurd (HNb92.out.symm.trans h.1) (by decide))), if_neg (fun h => by have h2 := h.2; rw [HNb304.out] at h2; cases h2)]; exact HNc314.out
         have hz9 : c314 = 0 := by have := c315h.out; have := c316h.out; have := c331h.out; omega
         have q344 := H343.out.cell 0 rfl 0 rfl
         have q345 := H343.out.cell 0 rfl 1 rfl
         have q346 := H343.out.cell 0 rfl 2 rfl
         refine bodyPost_ret (v := .tuple #[.agg #[.int .i64 bins, .int .i64 1, .int .i64 (aw * ah)], .int .i64 0]) ?_ rfl ⟨ret_sh (by rw [hC, hz9]; show _ = shW kd xn bins aw; unfold shW; have := c315h.out; have := c316h.out; have := c331h.out; first | (rw [if_pos (by omega)]; done) | (rw [if_neg (by omega), if_pos (by omega)]; done) | (rw [if_neg (by omega), if_neg (by omega)]; done)) (by rw [hC, hz9]; show _ = shH kd yn ah; unfold shH; have := c315h.out; have := c316h.out; have := c331h.out; first | (rw [if_pos (by omega)]; done) | (rw [if_neg (by omega), if_pos (by omega)]; done) | (rw [if_neg (by omega), if_neg (by omega)]; done)) (by rw [hC, hz9]; show _ = shM kd mx aw ah am; unfold shM; have := c315h.out; have := c316h.out; have := c331h.out; first | (rw [if_pos (by omega)]; done) | (rw [if_neg (by omega), if_pos (by omega)]; done) | (rw [if_neg (by omega), if_neg (by omega)]; done)) (by rw [hC, hz9]), by first | exact H343.out.below | exact H343.out.below'⟩
         simp [results, Try.results9, go_sem, q344, q345, q346]
        ·
         have c331a : ((kd : Int) == (4)) = false := by simpa using c331
         have c331b : ((kd : Int) != (4)) = true := by simpa using c331
         have c331h := hid c331
         clear c331
         by_cases c347 : (kd : Int) = 5
         ·
          obtain ⟨c347c, c347d⟩ : (kd : Int) ≤ 5 ∧ (5 : Int) ≤ kd := by omega
          have c347a : ((kd : Int) == (5)) = true := by simpa using c347
          have c347b : ((kd : Int) != (5)) = false := by simpa using c347
          have c347h := hid c347
          clear c347
          have z348 := H313.out.cell 3 rfl 0 (show A[0]? = some (.int .i64 kd) from by rw [HA.out]; rfl)
          go_upto_region 16 with fail
          clear z348
          have hpa := pOk_iff.1 HNb88.out
          have hb1 : 0 ≤ am * aw ∧ am * aw ≤ 549755813888 := ⟨Int.mul_nonneg (by omega) (by omega), by have := Int.mul_le_mul (show am ≤ 4294967296 by omega) (show aw ≤ 128 by omega) (by omega) (by omega); omega⟩
          have hb2 : 0 ≤ am * aw * ah ∧ am * aw * ah ≤ 70368744177664 := ⟨Int.mul_nonneg (by omega) (by omega), by have := Int.mul_le_mul hb1.2 (show ah ≤ 128 by omega) (by omega) (by omega); omega⟩
          have wm1 : IntKind.i64.wrap (am * aw) = am * aw := IntWalk.i64_in _ (by omega)
          have wm2 : IntKind.i64.wrap (am * aw * ah) = am * aw * ah := IntWalk.i64_in _ (by omega)
          clear hb1 hb2
          have z349 := H313.out.cell 2 rfl 0 rfl
          have z350 := H313.out.cell 2 rfl 1 rfl
          have z351 := H313.out.cell 2 rfl 2 rfl
          have z352 := H313.out.cell 0 rfl 0 rfl
          have z353 := H313.out.free 0 rfl 0
          have z354 := H313.out.cell 0 rfl 1 rfl
          have z355 := H313.out.free 0 rfl 1
          have z356 := H313.out.cell 0 rfl 2 rfl
          have z357 := H313.out.free 0 rfl 2
          go_wp2_with fail
          clear z349 z350 z351 z352 z353 z354 z355 z356 z357
          have H358 := hid (show St _ _ (.cells (B + 1 + 1 + 1) #[.int .i64 aw, .int .i64 ah, .int .i64 ((am * aw) * ah)] 24 :: _) _ _ from (((H313.out.set 0 rfl 0 (.int .i64 aw)).set 0 rfl 1 (.int .i64 ah)).set 0 rfl 2 (.int .i64 ((am * aw) * ah))))
          have hC : shCode (sfOk kd sb ep ef kw kh wn rn cn sh sh2 xn yn bins on mx) kd sb ep ef kw kh wl rl cl sh sh2 X Y bins ol mx aw ah am bw bh bm = c314 := by unfold shCode; rw [HNb82.out, if_neg (by decide), if_neg (fun h => h.elim (fun h => by rw [HNb88.out] at h; cases h) (fun h => by first | exact absurd (HNb92.out.symm.trans h.1) (by decide))), if_neg (fun h => by have h2 := h.2; rw [HNb304.out] at h2; cases h2)]; exact HNc314.out
          have hz9 : c314 = 0 := by have := c315h.out; have := c316h.out; have := c331h.out; have := c347h.out; omega
          have q359 := H358.out.cell 0 rfl 0 rfl
          have q360 := H358.out.cell 0 rfl 1 rfl
          have q361 := H358.out.cell 0 rfl 2 rfl
          refine bodyPost_ret (v := .tuple #[.agg #[.int .i64 aw, .int .i64 ah, .int .i64 ((am * aw) * ah)], .int .i64 0]) ?_ rfl ⟨ret_sh (by rw [hC, hz9]; show _ = shW kd xn bins aw; unfold shW; have := c315h.out; have := c316h.out; have := c331h.out; have := c347h.out; first | (rw [if_pos (by omega)]; done) | (rw [if_neg (by omega), if_pos (by omega)]; done) | (rw [if_neg (by omega), if_neg (by omega)]; done)) (by rw [hC, hz9]; show _ = shH kd yn ah; unfold shH; have := c315h.out; have := c316h.out; have := c331h.out; have := c347h.out; first | (rw [if_pos (by omega)]; done) | (rw [if_neg (by omega), if_pos (by omega)]; done) | (rw [if_neg (by omega), if_neg (by omega)]; done)) (by rw [hC, hz9]; show _ = shM kd mx aw ah am; unfold shM; have := c315h.out; have := c316h.out; have := c331h.out; have := c347h.out; first | (rw [if_pos (by omega)]; done) | (rw [if_neg (by omega), if_pos (by omega)]; done) | (rw [if_neg (by omega), if_neg (by omega)]; done)) (by rw [hC, hz9]), by first | exact H358.out.below | exact H358.out.below'⟩
          simp [results, Try.results9, go_sem, q359, q360, q361]
         ·
          have c347a : ((kd : Int) == (5)) = false := by simpa using c347
          have c347b : ((kd : Int) != (5)) = true := by simpa using c347
          have c347h := hid c347
          clear c347
          have z362 := H313.out.cell 2 rfl 0 rfl
          have z363 := H313.out.cell 2 rfl 1 rfl
          have z364 := H313.out.cell 2 rfl 2 rfl
          have z365 := H313.out.cell 0 rfl 0 rfl
          have z366 := H313.out.free 0 rfl 0
          have z367 := H313.out.cell 0 rfl 1 rfl
          have z368 := H313.out.free 0 rfl 1
          have z369 := H313.out.cell 0 rfl 2 rfl
          have z370 := H313.out.free 0 rfl 2
          have z371 := H313.out.cell 3 rfl 0 (show A[0]? = some (.int .i64 kd) from by rw [HA.out]; rfl)
          have z372 := H313.out.cell 3 rfl 17 (show A[17]? = some (.int .i64 mx) from by rw [HA.out]; rfl)
          go_wp2_with fail
          clear z362 z363 z364 z365 z366 z367 z368 z369 z370 z371 z372
          have H373 := hid (show St _ _ (.cells (B + 1 + 1 + 1) #[.int .i64 aw, .int .i64 ah, .int .i64 mx] 24 :: _) _ _ from (((H313.out.set 0 rfl 0 (.int .i64 aw)).set 0 rfl 1 (.int .i64 ah)).set 0 rfl 2 (.int .i64 mx)))
          have hC : shCode (sfOk kd sb ep ef kw kh wn rn cn sh sh2 xn yn bins on mx) kd sb ep ef kw kh wl rl cl sh sh2 X Y bins ol mx aw ah am bw bh bm = c314 := by unfold shCode; rw [HNb82.out, if_neg (by decide), if_neg (fun h => h.elim (fun h => by rw [HNb88.out] at h; cases h) (fun h => by first | exact absurd (HNb92.out.symm.trans h.1) (by decide))), if_neg (fun h => by have h2 := h.2; rw [HNb304.out] at h2; cases h2)]; exact HNc314.out
          have hz9 : c314 = 0 := by have := c315h.out; have := c316h.out; have := c331h.out; have := c347h.out; omega
          have q374 := H373.out.cell 0 rfl 0 rfl
          have q375 := H373.out.cell 0 rfl 1 rfl
          have q376 := H373.out.cell 0 rfl 2 rfl
          refine bodyPost_ret (v := .tuple #[.agg #[.int .i64 aw, .int .i64 ah, .int .i64 mx], .int .i64 0]) ?_ rfl ⟨ret_sh (by rw [hC, hz9]; show _ = shW kd xn bins aw; unfold shW; have := c315h.out; have := c316h.out; have := c331h.out; have := c347h.out; first | (rw [if_pos (by omega)]; done) | (rw [if_neg (by omega), if_pos (by omega)]; done) | (rw [if_neg (by omega), if_neg (by omega)]; done)) (by rw [hC, hz9]; show _ = shH kd yn ah; unfold shH; have := c315h.out; have := c316h.out; have := c331h.out; have := c347h.out; first | (rw [if_pos (by omega)]; done) | (rw [if_neg (by omega), if_pos (by omega)]; done) | (rw [if_neg (by omega), if_neg (by omega)]; done)) (by rw [hC, hz9]; show _ = shM kd mx aw ah am; unfold shM; have := c315h.out; have := c316h.out; have := c331h.out; have := c347h.out; first | (rw [if_pos (by omega)]; done) | (rw [if_neg (by omega), if_pos (by omega)]; done) | (rw [if_neg (by omega), if_neg (by omega)]; done)) (by rw [hC, hz9]), by first | exact H373.out.below | exact H373.out.below'⟩
          simp [results, Try.results9, go_sem, q374, q375, q376]
      ·
       have c315a : ((c314 : Int) == (0)) = false := by simpa using c315
       have c315b : ((c314 : Int) != (0)) = true := by simpa using c315
       have c315h := hid c315
       clear c315
       have z377 := H313.out.cell 0 rfl 0 rfl
       have z378 := H313.out.free 0 rfl 0
       have z379 := H313.out.cell 0 rfl 1 rfl
       have z380 := H313.out.free 0 rfl 1
       have z381 := H313.out.cell 0 rfl 2 rfl
       have z382 := H313.out.free 0 rfl 2
       go_wp2_with fail
       clear z377 z378 z379 z380 z381 z382
       have H383 := hid (show St _ _ (.cells (B + 1 + 1 + 1) #[.int .i64 0, .int .i64 0, .int .i64 0] 24 :: _) _ _ from (((H313.out.set 0 rfl 0 (.int .i64 0)).set 0 rfl 1 (.int .i64 0)).set 0 rfl 2 (.int .i64 0)))
       have hC : shCode (sfOk kd sb ep ef kw kh wn rn cn sh sh2 xn yn bins on mx) kd sb ep ef kw kh wl rl cl sh sh2 X Y bins ol mx aw ah am bw bh bm = c314 := by unfold shCode; rw [HNb82.out, if_neg (by decide), if_neg (fun h => h.elim (fun h => by rw [HNb88.out] at h; cases h) (fun h => by first | exact absurd (HNb92.out.symm.trans h.1) (by decide))), if_neg (fun h => by have h2 := h.2; rw [HNb304.out] at h2; cases h2)]; exact HNc314.out
       have q384 := H383.out.cell 0 rfl 0 rfl
       have q385 := H383.out.cell 0 rfl 1 rfl
       have q386 := H383.out.cell 0 rfl 2 rfl
       refine bodyPost_ret (v := .tuple #[.agg #[.int .i64 0, .int .i64 0, .int .i64 0], .int .i64 c314]) ?_ rfl ⟨ret_sh (by rw [hC]; exact (if_neg (by have := c315h.out; omega)).symm) (by rw [hC]; exact (if_neg (by have := c315h.out; omega)).symm) (by rw [hC]; exact (if_neg (by have := c315h.out; omega)).symm) hC.symm, by first | exact H383.out.below | exact H383.out.below'⟩
       simp [results, Try.results9, go_sem, q384, q385, q386]
     | false =>
      have z387 := H303.out.cell 0 rfl 0 rfl
      have z388 := H303.out.free 0 rfl 0
      have z389 := H303.out.cell 0 rfl 1 rfl
      have z390 := H303.out.free 0 rfl 1
      have z391 := H303.out.cell 0 rfl 2 rfl
      have z392 := H303.out.free 0 rfl 2
      go_wp2_with fail
      clear z387 z388 z389 z390 z391 z392
      have H393 := hid (show St _ _ (.cells (B + 1 + 1 + 1) #[.int .i64 0, .int .i64 0, .int .i64 0] 24 :: _) _ _ from (((H303.out.set 0 rfl 0 (.int .i64 0)).set 0 rfl 1 (.int .i64 0)).set 0 rfl 2 (.int .i64 0)))
      have hC : shCode (sfOk kd sb ep ef kw kh wn rn cn sh sh2 xn yn bins on mx) kd sb ep ef kw kh wl rl cl sh sh2 X Y bins ol mx aw ah am bw bh bm = 1 := by unfold shCode; rw [HNb82.out, if_neg (by decide), if_neg (fun h => h.elim (fun h => by rw [HNb88.out] at h; cases h) (fun h => by first | exact absurd (HNb92.out.symm.trans h.1) (by decide))), if_pos ⟨(by have h9 := HNb296.out; unfold edOk at h9; simp at h9; omega), HNb304.out⟩]
      have q394 := H393.out.cell 0 rfl 0 rfl
      have q395 := H393.out.cell 0 rfl 1 rfl
      have q396 := H393.out.cell 0 rfl 2 rfl
      refine bodyPost_ret (v := .tuple #[.agg #[.int .i64 0, .int .i64 0, .int .i64 0], .int .i64 1]) ?_ rfl ⟨ret_sh (by rw [hC]; rfl) (by rw [hC]; rfl) (by rw [hC]; rfl) hC.symm, by first | exact H393.out.below | exact H393.out.below'⟩
      simp [results, Try.results9, go_sem, q394, q395, q396]
    | false =>
     have z397 := H91.out.cell 2 rfl 0 rfl
     have z398 := H91.out.cell 2 rfl 1 rfl
     have z399 := H91.out.cell 2 rfl 2 rfl
     have z400 := H91.out.cell 1 rfl 0 rfl
     have z401 := H91.out.cell 1 rfl 1 rfl
     have z402 := H91.out.cell 1 rfl 2 rfl
     have z403 := H91.out.loadStg 3 rfl (by rw [HA.out]; rfl)
     go_wp2_with (refine loadArm z403 (by rfl) (by rfl) ?_)
     clear z397 z398 z399 z400 z401 z402 z403
     refine (shcheck_any HA.out wl rl cl X Y ol aw ah am bw bh bm _ (H91.out.old HWL.out) (H91.out.old HRL.out) (H91.out.old HCL.out) (H91.out.oldTps HX.out) (H91.out.oldTps HY.out) (H91.out.oldPrs HO.out)).mono ?_
     rintro e w404 ⟨rfl, hb⟩
     have H405 := hid (H91.out.call hb)
     clear hb
     obtain ⟨c406, hc406⟩ : ∃ xx', shCk kd sb kw kh wl rl cl sh sh2 X Y bins ol mx aw ah am bw bh bm = xx' := ⟨_, rfl⟩
     rw [hc406]
     have HNc406 := hid hc406
     clear hc406
     by_cases c407 : (c406 : Int) = 0
     ·
      obtain ⟨c407c, c407d⟩ : (c406 : Int) ≤ 0 ∧ (0 : Int) ≤ c406 := by omega
      have c407a : ((c406 : Int) == (0)) = true := by simpa using c407
      have c407b : ((c406 : Int) != (0)) = false := by simpa using c407
      have c407h := hid c407
      clear c407
      by_cases c408 : (kd : Int) = 3
      ·
       obtain ⟨c408c, c408d⟩ : (kd : Int) ≤ 3 ∧ (3 : Int) ≤ kd := by omega
       have c408a : ((kd : Int) == (3)) = true := by simpa using c408
       have c408b : ((kd : Int) != (3)) = false := by simpa using c408
       have c408h := hid c408
       clear c408
       have z409 := H405.out.cell 0 rfl 0 rfl
       have z410 := H405.out.free 0 rfl 0
       have z411 := H405.out.cell 0 rfl 1 rfl
       have z412 := H405.out.free 0 rfl 1
       have z413 := H405.out.cell 0 rfl 2 rfl
       have z414 := H405.out.free 0 rfl 2
       have z415 := H405.out.cell 3 rfl 0 (show A[0]? = some (.int .i64 kd) from by rw [HA.out]; rfl)
       have z416 := H405.out.cell 3 rfl 13 (show A[13]? = some (.slice xa xn xc) from by rw [HA.out]; rfl)
       have z417 := H405.out.cell 3 rfl 14 (show A[14]? = some (.slice ya yn yc) from by rw [HA.out]; rfl)
       have z418 := H405.out.cell 3 rfl 17 (show A[17]? = some (.int .i64 mx) from by rw [HA.out]; rfl)
       go_wp2_with fail
       clear z409 z410 z411 z412 z413 z414 z415 z416 z417 z418
       have H419 := hid (show St _ _ (.cells (B + 1 + 1 + 1) #[.int .i64 xn, .int .i64 yn, .int .i64 mx] 24 :: _) _ _ from (((H405.out.set 0 rfl 0 (.int .i64 xn)).set 0 rfl 1 (.int .i64 yn)).set 0 rfl 2 (.int .i64 mx)))
       have hC : shCode (sfOk kd sb ep ef kw kh wn rn cn sh sh2 xn yn bins on mx) kd sb ep ef kw kh wl rl cl sh sh2 X Y bins ol mx aw ah am bw bh bm = c406 := by unfold shCode; rw [HNb82.out, if_neg (by decide), if_neg (fun h => h.elim (fun h => by rw [HNb88.out] at h; cases h) (fun h => by first | exact absurd (HNb92.out.symm.trans h.1) (by decide))), if_neg (fun h => by have h1 := h.1; have h9 := HNb296.out; have h8 := sf_kd HNb82.out; unfold edOk at h9; simp at h9; omega)]; exact HNc406.out
       have hz9 : c406 = 0 := by have := c407h.out; have := c408h.out; omega
       have q420 := H419.out.cell 0 rfl 0 rfl
       have q421 := H419.out.cell 0 rfl 1 rfl
       have q422 := H419.out.cell 0 rfl 2 rfl
       refine bodyPost_ret (v := .tuple #[.agg #[.int .i64 xn, .int .i64 yn, .int .i64 mx], .int .i64 0]) ?_ rfl ⟨ret_sh (by rw [hC, hz9]; show _ = shW kd xn bins aw; unfold shW; have := c407h.out; have := c408h.out; first | (rw [if_pos (by omega)]; done) | (rw [if_neg (by omega), if_pos (by omega)]; done) | (rw [if_neg (by omega), if_neg (by omega)]; done)) (by rw [hC, hz9]; show _ = shH kd yn ah; unfold shH; have := c407h.out; have := c408h.out; first | (rw [if_pos (by omega)]; done) | (rw [if_neg (by omega), if_pos (by omega)]; done) | (rw [if_neg (by omega), if_neg (by omega)]; done)) (by rw [hC, hz9]; show _ = shM kd mx aw ah am; unfold shM; have := c407h.out; have := c408h.out; first | (rw [if_pos (by omega)]; done) | (rw [if_neg (by omega), if_pos (by omega)]; done) | (rw [if_neg (by omega), if_neg (by omega)]; done)) (by rw [hC, hz9]), by first | exact H419.out.below | exact H419.out.below'⟩
       simp [results, Try.results9, go_sem, q420, q421, q422]
      ·
       have c408a : ((kd : Int) == (3)) = false := by simpa using c408
       have c408b : ((kd : Int) != (3)) = true := by simpa using c408
       have c408h := hid c408
       clear c408
       by_cases c423 : (kd : Int) = 4
       ·
        obtain ⟨c423c, c423d⟩ : (kd : Int) ≤ 4 ∧ (4 : Int) ≤ kd := by omega
        have c423a : ((kd : Int) == (4)) = true := by simpa using c423
        have c423b : ((kd : Int) != (4)) = false := by simpa using c423
        have c423h := hid c423
        clear c423
        have z424 := H405.out.cell 3 rfl 0 (show A[0]? = some (.int .i64 kd) from by rw [HA.out]; rfl)
        go_upto_region 14 with fail
        clear z424
        have hpa := pOk_iff.1 HNb88.out
        have haw : 0 ≤ aw * ah := Int.mul_nonneg (by omega) (by omega)
        have wm1 : IntKind.i64.wrap (aw * ah) = aw * ah := IntWalk.i64_in _ (by omega)
        have z425 := H405.out.cell 2 rfl 0 rfl
        have z426 := H405.out.cell 2 rfl 1 rfl
        have z427 := H405.out.cell 2 rfl 2 rfl
        have z428 := H405.out.cell 0 rfl 0 rfl
        have z429 := H405.out.free 0 rfl 0
        have z430 := H405.out.cell 0 rfl 1 rfl
        have z431 := H405.out.free 0 rfl 1
        have z432 := H405.out.cell 0 rfl 2 rfl
        have z433 := H405.out.free 0 rfl 2
        have z434 := H405.out.cell 3 rfl 15 (show A[15]? = some (.int .i64 bins) from by rw [HA.out]; rfl)
        go_wp2_with fail
        clear z425 z426 z427 z428 z429 z430 z431 z432 z433 z434
        have H435 := hid (show St _ _ (.cells (B + 1 + 1 + 1) #[.int .i64 bins, .int .i64 1, .int .i64 (aw * ah)] 24 :: _) _ _ from (((H405.out.set 0 rfl 0 (.int .i64 bins)).set 0 rfl 1 (.int .i64 1)).set 0 rfl 2 (.int .i64 (aw * ah))))
        have hC : shCode (sfOk kd sb ep ef kw kh wn rn cn sh sh2 xn yn bins on mx) kd sb ep ef kw kh wl rl cl sh sh2 X Y bins ol mx aw ah am bw bh bm = c406 := by unfold shCode; rw [HNb82.out, if_neg (by decide), if_neg (fun h => h.elim (fun h => by rw [HNb88.out] at h; cases h) (fun h => by first | exact absurd (HNb92.out.symm.trans h.1) (by decide))), if_neg (fun h => by have h1 := h.1; have h9 := HNb296.out; have h8 := sf_kd HNb82.out; unfold edOk at h9; simp at h9; omega)]; exact HNc406.out
        have hz9 : c406 = 0 := by have := c407h.out; have := c408h.out; have := c423h.out; omega
        have q436 := H435.out.cell 0 rfl 0 rfl
        have q437 := H435.out.cell 0 rfl 1 rfl
        have q438 := H435.out.cell 0 rfl 2 rfl
        refine bodyPost_ret (v := .tuple #[.agg #[.int .i64 bins, .int .i64 1, .int .i64 (aw * ah)], .int .i64 0]) ?_ rfl ⟨ret_sh (by rw [hC, hz9]; show _ = shW kd xn bins aw; unfold shW; have := c407h.out; have := c408h.out; have := c423h.out; first | (rw [if_pos (by omega)]; done) | (rw [if_neg (by omega), if_pos (by omega)]; done) | (rw [if_neg (by omega), if_neg (by omega)]; done)) (by rw [hC, hz9]; show _ = shH kd yn ah; unfold shH; have := c407h.out; have := c408h.out; have := c423h.out; first | (rw [if_pos (by omega)]; done) | (rw [if_neg (by omega), if_pos (by omega)]; done) | (rw [if_neg (by omega), if_neg (by omega)]; done)) (by rw [hC, hz9]; show _ = shM kd mx aw ah am; unfold shM; have := c407h.out; have := c408h.out; have := c423h.out; first | (rw [if_pos (by omega)]; done) | (rw [if_neg (by omega), if_pos (by omega)]; done) | (rw [if_neg (by omega), if_neg (by omega)]; done)) (by rw [hC, hz9]), by first | exact H435.out.below | exact H435.out.below'⟩
        simp [results, Try.results9, go_sem, q436, q437, q438]
       ·
        have c423a : ((kd : Int) == (4)) = false := by simpa using c423
        have c423b : ((kd : Int) != (4)) = true := by simpa using c423
        have c423h := hid c423
        clear c423
        by_cases c439 : (kd : Int) = 5
        ·
         obtain ⟨c439c, c439d⟩ : (kd : Int) ≤ 5 ∧ (5 : Int) ≤ kd := by omega
         have c439a : ((kd : Int) == (5)) = true := by simpa using c439
         have c439b : ((kd : Int) != (5)) = false := by simpa using c439
         have c439h := hid c439
         clear c439
         have z440 := H405.out.cell 3 rfl 0 (show A[0]? = some (.int .i64 kd) from by rw [HA.out]; rfl)
         go_upto_region 16 with fail
         clear z440
         have hpa := pOk_iff.1 HNb88.out
         have hb1 : 0 ≤ am * aw ∧ am * aw ≤ 549755813888 := ⟨Int.mul_nonneg (by omega) (by omega), by have := Int.mul_le_mul (show am ≤ 4294967296 by omega) (show aw ≤ 128 by omega) (by omega) (by omega); omega⟩
         have hb2 : 0 ≤ am * aw * ah ∧ am * aw * ah ≤ 70368744177664 := ⟨Int.mul_nonneg (by omega) (by omega), by have := Int.mul_le_mul hb1.2 (show ah ≤ 128 by omega) (by omega) (by omega); omega⟩
         have wm1 : IntKind.i64.wrap (am * aw) = am * aw := IntWalk.i64_in _ (by omega)
         have wm2 : IntKind.i64.wrap (am * aw * ah) = am * aw * ah := IntWalk.i64_in _ (by omega)
         clear hb1 hb2
         have z441 := H405.out.cell 2 rfl 0 rfl
         have z442 := H405.out.cell 2 rfl 1 rfl
         have z443 := H405.out.cell 2 rfl 2 rfl
         have z444 := H405.out.cell 0 rfl 0 rfl
         have z445 := H405.out.free 0 rfl 0
         have z446 := H405.out.cell 0 rfl 1 rfl
         have z447 := H405.out.free 0 rfl 1
         have z448 := H405.out.cell 0 rfl 2 rfl
         have z449 := H405.out.free 0 rfl 2
         go_wp2_with fail
         clear z441 z442 z443 z444 z445 z446 z447 z448 z449
         have H450 := hid (show St _ _ (.cells (B + 1 + 1 + 1) #[.int .i64 aw, .int .i64 ah, .int .i64 ((am * aw) * ah)] 24 :: _) _ _ from (((H405.out.set 0 rfl 0 (.int .i64 aw)).set 0 rfl 1 (.int .i64 ah)).set 0 rfl 2 (.int .i64 ((am * aw) * ah))))
         have hC : shCode (sfOk kd sb ep ef kw kh wn rn cn sh sh2 xn yn bins on mx) kd sb ep ef kw kh wl rl cl sh sh2 X Y bins ol mx aw ah am bw bh bm = c406 := by unfold shCode; rw [HNb82.out, if_neg (by decide), if_neg (fun h => h.elim (fun h => by rw [HNb88.out] at h; cases h) (fun h => by first | exact absurd (HNb92.out.symm.trans h.1) (by decide))), if_neg (fun h => by have h1 := h.1; have h9 := HNb296.out; have h8 := sf_kd HNb82.out; unfold edOk at h9; simp at h9; omega)]; exact HNc406.out
         have hz9 : c406 = 0 := by have := c407h.out; have := c408h.out; have := c423h.out; have := c439h.out; omega
         have q451 := H450.out.cell 0 rfl 0 rfl
         have q452 := H450.out.cell 0 rfl 1 rfl
         have q453 := H450.out.cell 0 rfl 2 rfl
         refine bodyPost_ret (v := .tuple #[.agg #[.int .i64 aw, .int .i64 ah, .int .i64 ((am * aw) * ah)], .int .i64 0]) ?_ rfl ⟨ret_sh (by rw [hC, hz9]; show _ = shW kd xn bins aw; unfold shW; have := c407h.out; have := c408h.out; have := c423h.out; have := c439h.out; first | (rw [if_pos (by omega)]; done) | (rw [if_neg (by omega), if_pos (by omega)]; done) | (rw [if_neg (by omega), if_neg (by omega)]; done)) (by rw [hC, hz9]; show _ = shH kd yn ah; unfold shH; have := c407h.out; have := c408h.out; have := c423h.out; have := c439h.out; first | (rw [if_pos (by omega)]; done) | (rw [if_neg (by omega), if_pos (by omega)]; done) | (rw [if_neg (by omega), if_neg (by omega)]; done)) (by rw [hC, hz9]; show _ = shM kd mx aw ah am; unfold shM; have := c407h.out; have := c408h.out; have := c423h.out; have := c439h.out; first | (rw [if_pos (by omega)]; done) | (rw [if_neg (by omega), if_pos (by omega)]; done) | (rw [if_neg (by omega), if_neg (by omega)]; done)) (by rw [hC, hz9]), by first | exact H450.out.below | exact H450.out.below'⟩
         simp [results, Try.results9, go_sem, q451, q452, q453]
        ·
         have c439a : ((kd : Int) == (5)) = false := by simpa using c439
         have c439b : ((kd : Int) != (5)) = true := by simpa using c439
         have c439h := hid c439
         clear c439
         have z454 := H405.out.cell 2 rfl 0 rfl
         have z455 := H405.out.cell 2 rfl 1 rfl
         have z456 := H405.out.cell 2 rfl 2 rfl
         have z457 := H405.out.cell 0 rfl 0 rfl
         have z458 := H405.out.free 0 rfl 0
         have z459 := H405.out.cell 0 rfl 1 rfl
         have z460 := H405.out.free 0 rfl 1
         have z461 := H405.out.cell 0 rfl 2 rfl
         have z462 := H405.out.free 0 rfl 2
         have z463 := H405.out.cell 3 rfl 0 (show A[0]? = some (.int .i64 kd) from by rw [HA.out]; rfl)
         have z464 := H405.out.cell 3 rfl 17 (show A[17]? = some (.int .i64 mx) from by rw [HA.out]; rfl)
         go_wp2_with fail
         clear z454 z455 z456 z457 z458 z459 z460 z461 z462 z463 z464
         have H465 := hid (show St _ _ (.cells (B + 1 + 1 + 1) #[.int .i64 aw, .int .i64 ah, .int .i64 mx] 24 :: _) _ _ from (((H405.out.set 0 rfl 0 (.int .i64 aw)).set 0 rfl 1 (.int .i64 ah)).set 0 rfl 2 (.int .i64 mx)))
         have hC : shCode (sfOk kd sb ep ef kw kh wn rn cn sh sh2 xn yn bins on mx) kd sb ep ef kw kh wl rl cl sh sh2 X Y bins ol mx aw ah am bw bh bm = c406 := by unfold shCode; rw [HNb82.out, if_neg (by decide), if_neg (fun h => h.elim (fun h => by rw [HNb88.out] at h; cases h) (fun h => by first | exact absurd (HNb92.out.symm.trans h.1) (by decide))), if_neg (fun h => by have h1 := h.1; have h9 := HNb296.out; have h8 := sf_kd HNb82.out; unfold edOk at h9; simp at h9; omega)]; exact HNc406.out
         have hz9 : c406 = 0 := by have := c407h.out; have := c408h.out; have := c423h.out; have := c439h.out; omega
         have q466 := H465.out.cell 0 rfl 0 rfl
         have q467 := H465.out.cell 0 rfl 1 rfl
         have q468 := H465.out.cell 0 rfl 2 rfl
         refine bodyPost_ret (v := .tuple #[.agg #[.int .i64 aw, .int .i64 ah, .int .i64 mx], .int .i64 0]) ?_ rfl ⟨ret_sh (by rw [hC, hz9]; show _ = shW kd xn bins aw; unfold shW; have := c407h.out; have := c408h.out; have := c423h.out; have := c439h.out; first | (rw [if_pos (by omega)]; done) | (rw [if_neg (by omega), if_pos (by omega)]; done) | (rw [if_neg (by omega), if_neg (by omega)]; done)) (by rw [hC, hz9]; show _ = shH kd yn ah; unfold shH; have := c407h.out; have := c408h.out; have := c423h.out; have := c439h.out; first | (rw [if_pos (by omega)]; done) | (rw [if_neg (by omega), if_pos (by omega)]; done) | (rw [if_neg (by omega), if_neg (by omega)]; done)) (by rw [hC, hz9]; show _ = shM kd mx aw ah am; unfold shM; have := c407h.out; have := c408h.out; have := c423h.out; have := c439h.out; first | (rw [if_pos (by omega)]; done) | (rw [if_neg (by omega), if_pos (by omega)]; done) | (rw [if_neg (by omega), if_neg (by omega)]; done)) (by rw [hC, hz9]), by first | exact H465.out.below | exact H465.out.below'⟩
         simp [results, Try.results9, go_sem, q466, q467, q468]
     ·
      have c407a : ((c406 : Int) == (0)) = false := by simpa using c407
      have c407b : ((c406 : Int) != (0)) = true := by simpa using c407
      have c407h := hid c407
      clear c407
      have z469 := H405.out.cell 0 rfl 0 rfl
      have z470 := H405.out.free 0 rfl 0
      have z471 := H405.out.cell 0 rfl 1 rfl
      have z472 := H405.out.free 0 rfl 1
      have z473 := H405.out.cell 0 rfl 2 rfl
      have z474 := H405.out.free 0 rfl 2
      go_wp2_with fail
      clear z469 z470 z471 z472 z473 z474
      have H475 := hid (show St _ _ (.cells (B + 1 + 1 + 1) #[.int .i64 0, .int .i64 0, .int .i64 0] 24 :: _) _ _ from (((H405.out.set 0 rfl 0 (.int .i64 0)).set 0 rfl 1 (.int .i64 0)).set 0 rfl 2 (.int .i64 0)))
      have hC : shCode (sfOk kd sb ep ef kw kh wn rn cn sh sh2 xn yn bins on mx) kd sb ep ef kw kh wl rl cl sh sh2 X Y bins ol mx aw ah am bw bh bm = c406 := by unfold shCode; rw [HNb82.out, if_neg (by decide), if_neg (fun h => h.elim (fun h => by rw [HNb88.out] at h; cases h) (fun h => by first | exact absurd (HNb92.out.symm.trans h.1) (by decide))), if_neg (fun h => by have h1 := h.1; have h9 := HNb296.out; have h8 := sf_kd HNb82.out; unfold edOk at h9; simp at h9; omega)]; exact HNc406.out
      have q476 := H475.out.cell 0 rfl 0 rfl
      have q477 := H475.out.cell 0 rfl 1 rfl
      have q478 := H475.out.cell 0 rfl 2 rfl
      refine bodyPost_ret (v := .tuple #[.agg #[.int .i64 0, .int .i64 0, .int .i64 0], .int .i64 c406]) ?_ rfl ⟨ret_sh (by rw [hC]; exact (if_neg (by have := c407h.out; omega)).symm) (by rw [hC]; exact (if_neg (by have := c407h.out; omega)).symm) (by rw [hC]; exact (if_neg (by have := c407h.out; omega)).symm) hC.symm, by first | exact H475.out.below | exact H475.out.below'⟩
      simp [results, Try.results9, go_sem, q476, q477, q478]
  | false =>
   have z479 := H87.out.cell 0 rfl 0 rfl
   have z480 := H87.out.free 0 rfl 0
   have z481 := H87.out.cell 0 rfl 1 rfl
   have z482 := H87.out.free 0 rfl 1
   have z483 := H87.out.cell 0 rfl 2 rfl
   have z484 := H87.out.free 0 rfl 2
   go_wp2_with fail
   clear z479 z480 z481 z482 z483 z484
   have H485 := hid (show St _ _ (.cells (B + 1 + 1 + 1) #[.int .i64 0, .int .i64 0, .int .i64 0] 24 :: _) _ _ from (((H87.out.set 0 rfl 0 (.int .i64 0)).set 0 rfl 1 (.int .i64 0)).set 0 rfl 2 (.int .i64 0)))
   have hC : shCode (sfOk kd sb ep ef kw kh wn rn cn sh sh2 xn yn bins on mx) kd sb ep ef kw kh wl rl cl sh sh2 X Y bins ol mx aw ah am bw bh bm = 2 := by unfold shCode; rw [HNb82.out, if_neg (by decide), if_pos (.inl HNb88.out)]
   have q486 := H485.out.cell 0 rfl 0 rfl
   have q487 := H485.out.cell 0 rfl 1 rfl
   have q488 := H485.out.cell 0 rfl 2 rfl
   refine bodyPost_ret (v := .tuple #[.agg #[.int .i64 0, .int .i64 0, .int .i64 0], .int .i64 2]) ?_ rfl ⟨ret_sh (by rw [hC]; rfl) (by rw [hC]; rfl) (by rw [hC]; rfl) hC.symm, by first | exact H485.out.below | exact H485.out.below'⟩
   simp [results, Try.results9, go_sem, q486, q487, q488]
 | false =>
  have z489 := H81.out.cell 0 rfl 0 rfl
  have z490 := H81.out.free 0 rfl 0
  have z491 := H81.out.cell 0 rfl 1 rfl
  have z492 := H81.out.free 0 rfl 1
  have z493 := H81.out.cell 0 rfl 2 rfl
  have z494 := H81.out.free 0 rfl 2
  go_wp2_with fail
  clear z489 z490 z491 z492 z493 z494
  have H495 := hid (show St _ _ (.cells (B + 1 + 1 + 1) #[.int .i64 0, .int .i64 0, .int .i64 0] 24 :: _) _ _ from (((H81.out.set 0 rfl 0 (.int .i64 0)).set 0 rfl 1 (.int .i64 0)).set 0 rfl 2 (.int .i64 0)))
  have hC : shCode (sfOk kd sb ep ef kw kh wn rn cn sh sh2 xn yn bins on mx) kd sb ep ef kw kh wl rl cl sh sh2 X Y bins ol mx aw ah am bw bh bm = 1 := by unfold shCode; rw [HNb82.out]; rfl
  have q496 := H495.out.cell 0 rfl 0 rfl
  have q497 := H495.out.cell 0 rfl 1 rfl
  have q498 := H495.out.cell 0 rfl 2 rfl
  refine bodyPost_ret (v := .tuple #[.agg #[.int .i64 0, .int .i64 0, .int .i64 0], .int .i64 1]) ?_ rfl ⟨ret_sh (by rw [hC]; rfl) (by rw [hC]; rfl) (by rw [hC]; rfl) hC.symm, by first | exact H495.out.below | exact H495.out.below'⟩
  simp [results, Try.results9, go_sem, q496, q497, q498]
end Go.Proofs.Yteejjnhlfgjlaaa
