/-
  Contract: the tiles of convolutions, in the program.
-/
import Derived.Test.YtocikgdkigcjbaaCvPix
namespace Go.Proofs.Ytocikgdkigcjbaa
open Go.RowKit
attribute [local go_sem ↓] Go.wp_at_zero Go.wp_at_succ
set_option linter.unusedVariables false
set_option linter.unusedSimpArgs false

theorem wm2 {z v : Int} (hz : -32767 ≤ z ∧ z ≤ 32767) (hv : 0 ≤ v ∧ v ≤ 4294967296) : -140733193388032 ≤ z * v ∧ z * v ≤ 140733193388032 := by
  have h3 : z.natAbs ≤ 32767 := by omega
  have h4 : v.natAbs ≤ 4294967296 := by omega
  have h5 := Nat.mul_le_mul h3 h4
  rw [← Int.natAbs_mul] at h5
  omega

set_option maxRecDepth 100000 in
set_option maxHeartbeats 12800000 in
theorem ctile_any (w h mx : Int) (a : Option Addr) (n c : Nat) (zs : List Int) (p f kw kh : Int) (wa : Option Addr) (wn wc : Nat) (ws : List Int) (shift out r0 r1 r2 r3 : Int) (W : World) (hs : Slc W a n c zs) (hw : Slc W wa wn wc ws) :
    Calls Try.prog 20 #[.agg #[.int .i64 w, .int .i64 h, .int .i64 mx, .slice a n c], .agg #[.int .i64 p, .int .i64 f], .int .i64 kw, .int .i64 kh, .slice wa wn wc, .int .i64 shift, .int .i64 out, .agg #[.int .i64 r0, .int .i64 r1, .int .i64 r2, .int .i64 r3]] W (TPost (cvTC w h mx zs p f kw kh ws shift out r0 r1 r2 r3) (r2 - r0) (r3 - r1) out (cvL w h zs p f kw kh ws shift out r0 r1 r2 r3) W) := by
  obtain ⟨B, hB⟩ : ∃ B, W.heap.size = B := ⟨_, rfl⟩
  have HI0 := hid (St.init hB)
  have HS := hid hs
  have HW := hid hw
  have HLW := hid hw.len
  have wnm : (wn : Int) ≤ 9223372036854775807 := by have := hw.nc; have := hw.cap; omega
  clear hs hw
  go_enter Try.func20, Try.ntmps20
  go_upto_region 1 with fail
  have H99 := hid (show St B W [.cells (B + 1 + 1 + 1) #[.int .i64 0, .int .i64 0, .int .i64 0, .slice none 0 0] 35, .cells (B + 1 + 1) #[.int .i64 r0, .int .i64 r1, .int .i64 r2, .int .i64 r3] 33, .cells (B + 1) #[.int .i64 p, .int .i64 f] 38, .cells B #[.int .i64 w, .int .i64 h, .int .i64 mx, .slice a n c] 35] [] ((((W.alloc (.cells #[.int .i64 w, .int .i64 h, .int .i64 mx, .slice a n c] 35)).alloc (.cells #[.int .i64 p, .int .i64 f] 38)).alloc (.cells #[.int .i64 r0, .int .i64 r1, .int .i64 r2, .int .i64 r3] 33)).alloc (.cells #[.int .i64 0, .int .i64 0, .int .i64 0, .slice none 0 0] 35)) from ((((HI0.out.alloc #[.int .i64 w, .int .i64 h, .int .i64 mx, .slice a n c] 35 hB).alloc #[.int .i64 p, .int .i64 f] 38 (by first | exact hB | simp [hB])).alloc #[.int .i64 r0, .int .i64 r1, .int .i64 r2, .int .i64 r3] 33 (by first | exact hB | simp [hB])).alloc #[.int .i64 0, .int .i64 0, .int .i64 0, .slice none 0 0] 35 (by first | exact hB | simp [hB])))
  first | refine gen_code H99.out ?_ | refine gen_list H99.out ?_ | refine gen_calls H99.out ?_
  intro w100 hG
  clear H99
  have H99 := hid hG
  clear hG
  have z101 := H99.out.cell 3 rfl 0 rfl
  have z102 := H99.out.cell 3 rfl 1 rfl
  have z103 := H99.out.cell 3 rfl 2 rfl
  have z104 := H99.out.cell 3 rfl 3 rfl
  go_wp2_with fail
  clear z101 z102 z103 z104
  refine (pvalid_any _ _ _ _ _ _ _ _ (by have := HS.out.nc; have := HS.out.cap; omega) (H99.out.old HS.out).row).mono ?_
  rintro e w105 ⟨rfl, hb⟩
  have H106 := hid (H99.out.call hb)
  clear hb
  obtain ⟨b107, hb107⟩ : ∃ xx', pValid w h mx zs = xx' := ⟨_, rfl⟩
  rw [hb107]
  have HNb107 := hid hb107
  clear hb107
  cases b107 with
  | true =>
    have z108 := H106.out.cell 2 rfl 0 rfl
    have z109 := H106.out.cell 2 rfl 1 rfl
    have z110 := H106.out.cell 3 rfl 0 rfl
    have z111 := H106.out.cell 3 rfl 1 rfl
    have z112 := H106.out.cell 3 rfl 2 rfl
    have z113 := H106.out.cell 3 rfl 3 rfl
    go_wp2_with fail
    clear z108 z109 z110 z111 z112 z113
    refine (bvalid_any _ _ _ _).mono ?_
    rintro e w114 ⟨rfl, hb⟩
    have H115 := hid (H106.out.call hb)
    clear hb
    obtain ⟨b116, hb116⟩ : ∃ xx', bValid p f mx = xx' := ⟨_, rfl⟩
    rw [hb116]
    have HNb116 := hid hb116
    clear hb116
    cases b116 with
    | true =>
      have z117 := H115.out.cell 3 rfl 0 rfl
      have z118 := H115.out.cell 3 rfl 1 rfl
      have z119 := H115.out.cell 3 rfl 2 rfl
      have z120 := H115.out.cell 3 rfl 3 rfl
      go_wp2_with fail
      clear z117 z118 z119 z120
      refine (ccheck_any _ _ _ _ _ _ _ _ _ _ (H115.out.old HW.out)).mono ?_
      rintro e w121 ⟨rfl, hb⟩
      have H122 := hid (H115.out.call hb)
      clear hb
      obtain ⟨k123, hk123⟩ : ∃ xx', cvCode mx kw kh ws shift out = xx' := ⟨_, rfl⟩
      rw [hk123]
      have HNk123 := hid hk123
      clear hk123
      by_cases c124 : (k123 : Int) = 0
      · obtain ⟨c124c, c124d⟩ : (k123 : Int) ≤ 0 ∧ (0 : Int) ≤ k123 := by omega
        have c124a : ((k123 : Int) == (0)) = true := by simpa using c124
        have c124b : ((k123 : Int) != (0)) = false := by simpa using c124
        have c124h := hid c124
        clear c124
        have z125 := H122.out.cell 1 rfl 0 rfl
        have z126 := H122.out.cell 1 rfl 1 rfl
        have z127 := H122.out.cell 1 rfl 2 rfl
        have z128 := H122.out.cell 1 rfl 3 rfl
        go_wp2_with fail
        clear z125 z126 z127 z128
        refine (rempty_any _ _ _ _ _).mono ?_
        rintro e w129 ⟨rfl, hb⟩
        have H130 := hid (H122.out.call hb)
        clear hb
        obtain ⟨b131, hb131⟩ : ∃ xx', rEmpty r0 r1 r2 r3 = xx' := ⟨_, rfl⟩
        rw [hb131]
        have HNb131 := hid hb131
        clear hb131
        cases b131 with
        | true =>
          have z132 := H130.out.cell 0 rfl 0 rfl
          have z133 := H130.out.free 0 rfl 0
          have z134 := H130.out.cell 0 rfl 1 rfl
          have z135 := H130.out.free 0 rfl 1
          have z136 := H130.out.cell 0 rfl 2 rfl
          have z137 := H130.out.free 0 rfl 2
          have z138 := H130.out.cell 0 rfl 3 rfl
          have z139 := H130.out.free 0 rfl 3
          go_wp2_with fail
          clear z132 z133 z134 z135 z136 z137 z138 z139
          have H140 := hid (show St B W [.cells (B + 1 + 1 + 1) #[.int .i64 0, .int .i64 0, .int .i64 0, .slice none 0 0] 35, .cells (B + 1 + 1) #[.int .i64 r0, .int .i64 r1, .int .i64 r2, .int .i64 r3] 33, .cells (B + 1) #[.int .i64 p, .int .i64 f] 38, .cells B #[.int .i64 w, .int .i64 h, .int .i64 mx, .slice a n c] 35] [] ((((w129.setCell ⟨B + 1 + 1 + 1, 0, none⟩ (.int .i64 0)).setCell ⟨B + 1 + 1 + 1, 1, none⟩ (.int .i64 0)).setCell ⟨B + 1 + 1 + 1, 2, none⟩ (.int .i64 0)).setCell ⟨B + 1 + 1 + 1, 3, none⟩ (.slice none 0 0)) from (H130.out.set4 0 rfl (.int .i64 0) (.int .i64 0) (.int .i64 0) (.slice none 0 0)))
          have q141 := H140.out.cell 0 rfl 0 rfl
          have q142 := H140.out.cell 0 rfl 1 rfl
          have q143 := H140.out.cell 0 rfl 2 rfl
          have q144 := H140.out.cell 0 rfl 3 rfl
          refine bodyPost_ret (v := .tuple #[.agg #[.int .i64 0, .int .i64 0, .int .i64 0, .slice none 0 0], .int .i64 8]) ?_ rfl (TPost.no (by unfold cvTC; rw [if_neg (fun hc => hc ⟨HNb107.out, HNb116.out⟩), if_neg (by rw [HNk123.out]; have := c124h.out; omega), if_pos (by unfold rIs; rw [HNb131.out]; rfl)]) (by omega) (by first | exact H140.out.below | exact H140.out.below'))
          simp [results, Try.results20, go_sem, q141, q142, q143, q144]
        | false =>
          have z145 := H130.out.cell 1 rfl 0 rfl
          have z146 := H130.out.cell 1 rfl 1 rfl
          have z147 := H130.out.cell 1 rfl 2 rfl
          have z148 := H130.out.cell 1 rfl 3 rfl
          have z149 := H130.out.cell 3 rfl 0 rfl
          have z150 := H130.out.cell 3 rfl 1 rfl
          have z151 := H130.out.cell 3 rfl 2 rfl
          have z152 := H130.out.cell 3 rfl 3 rfl
          go_wp2_with fail
          clear z145 z146 z147 z148 z149 z150 z151 z152
          refine (rinside_any _ _ _ _ _ _ _ _ _).mono ?_
          rintro e w153 ⟨rfl, hb⟩
          have H154 := hid (H130.out.call hb)
          clear hb
          obtain ⟨b155, hb155⟩ : ∃ xx', rInside r0 r1 r2 r3 0 0 w h = xx' := ⟨_, rfl⟩
          rw [hb155]
          have HNb155 := hid hb155
          clear hb155
          cases b155 with
          | true =>
            have HCK := hid (show cvCode mx kw kh ws shift out = 0 from by rw [HNk123.out]; omega)
            have HV := hid HNb107.out
            have HB := hid HNb116.out
            obtain ⟨p1, p2, p3, p4, p5, p6, p7⟩ := pOk_iff.1 (pValid_iff.1 HNb107.out).1
            have HIN := hid (show rIs r0 r1 r2 r3 w h = true from by unfold rIs; rw [HNb131.out, HNb155.out]; rfl)
            obtain ⟨i1, i2, i3, i4, i5, i6⟩ := (rIs_iff p1 p2 p3 p4).1 HIN.out
            have HTC := hid (show cvTC w h mx zs p f kw kh ws shift out r0 r1 r2 r3 = 0 from by unfold cvTC; rw [if_neg (fun hc => hc ⟨HV.out, HB.out⟩), if_neg (by rw [HCK.out]; simp), if_neg (by rw [HIN.out]; simp)])
            obtain ⟨k1, k2, k3, k4, k5, k6, k7, k8, sh1, sh2, o1, o2, _⟩ := cv_len HCK.out
            have HWA := hid k8
            clear k8
            obtain ⟨KW, hKW⟩ : ∃ m : Nat, kw = m := ⟨kw.toNat, by omega⟩
            obtain ⟨KH, hKH⟩ : ∃ m : Nat, kh = m := ⟨kh.toNat, by omega⟩
            subst hKW
            subst hKH
            have HKL := hid (show ws.length = KH * KW from by have := k5; rw [← Int.natCast_mul, Nat.mul_comm] at this; omega)
            clear k5
            obtain ⟨kw2, hkw2⟩ : ∃ q, Int.tdiv (KW : Int) 2 = q := ⟨_, rfl⟩
            obtain ⟨kh2, hkh2⟩ : ∃ q, Int.tdiv (KH : Int) 2 = q := ⟨_, rfl⟩
            have HKW2 := hid (show (KW : Int) / 2 = kw2 from by rw [← hkw2, Int.tdiv_eq_ediv_of_nonneg (by omega)])
            have HKH2 := hid (show (KH : Int) / 2 = kh2 from by rw [← hkh2, Int.tdiv_eq_ediv_of_nonneg (by omega)])
            obtain ⟨kb1, kb2, kb3, kb4⟩ : 0 ≤ kw2 ∧ kw2 ≤ 4 ∧ 0 ≤ kh2 ∧ kh2 ≤ 4 := by have h1 := HKW2.out; have h2 := HKH2.out; omega
            obtain ⟨wd, hwd⟩ : ∃ m : Nat, r2 - r0 = m := ⟨(r2 - r0).toNat, by omega⟩
            obtain ⟨ht, hht⟩ : ∃ m : Nat, r3 - r1 = m := ⟨(r3 - r1).toNat, by omega⟩
            have HWD := hid hwd
            have HHT := hid hht
            obtain ⟨wd1, wd2, ht1, ht2⟩ : (wd : Int) ≤ r2 - r0 ∧ r2 - r0 ≤ wd ∧ (ht : Int) ≤ r3 - r1 ∧ r3 - r1 ≤ ht := by omega
            have pq0 := Int.mul_nonneg (a := r2 - r0) (b := r3 - r1) (by omega) (by omega)
            have pq1 := Int.mul_le_mul (a := r2 - r0) (c := w) (b := r3 - r1) (d := h) (by omega) (by omega) (by omega) (by omega)
            obtain ⟨NN, hNN⟩ : ∃ N : Nat, (r2 - r0) * (r3 - r1) = N := ⟨((r2 - r0) * (r3 - r1)).toNat, by omega⟩
            rw [hNN] at pq0 pq1
            have HNN := hid (show ht * wd = NN from by have := hNN; rw [hwd, hht, ← Int.natCast_mul, Nat.mul_comm] at this; omega)
            clear hwd hht
            obtain ⟨F, hF⟩ : ∃ F : Nat → Nat → Int, (fun (k j : Nat) => cvP w h zs p f KW KH ws shift out (r0 + (j : Int)) (r1 + (k : Int))) = F := ⟨_, rfl⟩
            have HFV := hid (show ∀ k j : Nat, cvP w h zs p f KW KH ws shift out (r0 + (j : Int)) (r1 + (k : Int)) = F k j from fun k j => by rw [← hF])
            have HFF := hid hF
            clear hF
            have hnn2 : IntKind.i64.wrap (NN : Int) = NN := IntWalk.i64_in _ (by omega)
            obtain ⟨D156, hD156⟩ : ∃ D, w153.heap.size = D := ⟨_, rfl⟩
            have z157 := H154.out.cell 1 rfl 0 rfl
            have z158 := H154.out.cell 1 rfl 1 rfl
            have z159 := H154.out.cell 1 rfl 2 rfl
            have z160 := H154.out.cell 1 rfl 3 rfl
            go_upto_region 9 with fail
            clear z157 z158 z159 z160
            have H161 := hid (show St B W [.cells D156 #[.int .i64 (r2 - r0), .int .i64 (r3 - r1), .int .i64 out, .slice none 0 0] 35, .cells (B + 1 + 1 + 1) #[.int .i64 0, .int .i64 0, .int .i64 0, .slice none 0 0] 35, .cells (B + 1 + 1) #[.int .i64 r0, .int .i64 r1, .int .i64 r2, .int .i64 r3] 33, .cells (B + 1) #[.int .i64 p, .int .i64 f] 38, .cells B #[.int .i64 w, .int .i64 h, .int .i64 mx, .slice a n c] 35] [] (w153.alloc (.cells #[.int .i64 (r2 - r0), .int .i64 (r3 - r1), .int .i64 out, .slice none 0 0] 35)) from (H154.out.alloc #[.int .i64 (r2 - r0), .int .i64 (r3 - r1), .int .i64 out, .slice none 0 0] 35 hD156))
            first | refine gen_code H161.out ?_ | refine gen_list H161.out ?_ | refine gen_calls H161.out ?_
            intro w162 hG
            clear H161
            have H161 := hid hG
            clear hG
            clear hD156
            obtain ⟨D3, hD3⟩ : ∃ D, w162.heap.size = D := ⟨_, rfl⟩
            have hBD3 : B ≤ D3 := by have := H161.out.size; omega
            have z163 := H161.out.cell 0 rfl 0 rfl
            have z164 := H161.out.free 0 rfl 0
            have z165 := H161.out.cell 0 rfl 1 rfl
            have z166 := H161.out.free 0 rfl 1
            have z167 := H161.out.cell 0 rfl 2 rfl
            have z168 := H161.out.free 0 rfl 2
            have z169 := H161.out.cell 0 rfl 3 rfl
            have z170 := H161.out.free 0 rfl 3
            go_upto_region 10 with (first | (at_make; refine make_cap rfl _ _ rfl D3 _ NN rfl rfl (by first | rfl | exact hNN) (by omega) (by omega) ?_; intro w172 ho hb; rw [hD3] at ho ⊢; have H171 := hid (H161.out.grow hb (by rw [hD3]; exact ho)); clear ho hb z163 z164 z165 z166 z167 z168 z169 z170; have g3 := H171.out.cell 1 rfl 3 rfl; have g4 := H171.out.free 1 rfl 3))
            have H173 := hid (H171.out.set 1 rfl 3 (.slice (some ⟨D3, 0, none⟩) 0 NN))
            clear g3 g4 H171 hD3
            generalize World.setCell w172 _ _ = w174 at *
            clear hNN hnn2
            obtain ⟨wb, wo, hwa⟩ := row_at HW.out.row (by have := HLW.out; omega)
            subst hwa
            have z175 := H173.out.cell 3 rfl 0 rfl
            have z176 := H173.out.cell 3 rfl 1 rfl
            have z177 := H173.out.cell 3 rfl 2 rfl
            have z178 := H173.out.cell 3 rfl 3 rfl
            go_wp2_with fail
            clear z175 z176 z177 z178
            go_loopw [20] (fun i wr => ∃ (y : Int) (k ln g cp : Nat), k ≤ ht ∧ y ≤ r1 + k ∧ r1 + k ≤ y ∧ i = .int .i64 y ∧ ln = k * wd ∧ St B W [.own (.slice (some ⟨g, 0, none⟩) ln cp) (gridL F wd k 0), .cells D156 #[.int .i64 (r2 - r0), .int .i64 (r3 - r1), .int .i64 out, .slice (some ⟨g, 0, none⟩) ln cp] 35, .cells (B + 1 + 1 + 1) #[.int .i64 0, .int .i64 0, .int .i64 0, .slice none 0 0] 35, .cells (B + 1 + 1) #[.int .i64 r0, .int .i64 r1, .int .i64 r2, .int .i64 r3] 33, .cells (B + 1) #[.int .i64 p, .int .i64 f] 38, .cells B #[.int .i64 w, .int .i64 h, .int .i64 mx, .slice a n c] 35] [] wr) (fun i _ => (r3 - intOf i).toNat)
            case atStart => exact ⟨r1, 0, 0, D3, NN, by omega, by omega, by omega, rfl, by omega, H173.out.pick [0, 1, 2, 3, 4, 5] rfl (by decide)⟩
            case round =>
              obtain ⟨y, k, ln, g, cp, hk, hy1, hy2, rfl, hln, hst⟩ := hrel
              obtain ⟨u179, rfl⟩ : ∃ u179 : World, u179 = wr := ⟨_, rfl⟩
              have H180 := hid hst
              clear hst
              have HLN := hid hln
              clear hln
              by_cases hkn : k < ht
              · skip
                have hkn' : (y : Int) < r3 := by omega
                have z181 := H180.out.cell 3 rfl 0 rfl
                have z182 := H180.out.cell 3 rfl 1 rfl
                have z183 := H180.out.cell 3 rfl 2 rfl
                have z184 := H180.out.cell 3 rfl 3 rfl
                go_wp2_with fail
                clear z181 z182 z183 z184
                go_loopw [21] (fun i wr => ∃ (x : Int) (j ln g cp : Nat), j ≤ wd ∧ x ≤ r0 + j ∧ r0 + j ≤ x ∧ i = .int .i64 x ∧ ln = k * wd + j ∧ St B W [.own (.slice (some ⟨g, 0, none⟩) ln cp) (gridL F wd k j), .cells D156 #[.int .i64 (r2 - r0), .int .i64 (r3 - r1), .int .i64 out, .slice (some ⟨g, 0, none⟩) ln cp] 35, .cells (B + 1 + 1 + 1) #[.int .i64 0, .int .i64 0, .int .i64 0, .slice none 0 0] 35, .cells (B + 1 + 1) #[.int .i64 r0, .int .i64 r1, .int .i64 r2, .int .i64 r3] 33, .cells (B + 1) #[.int .i64 p, .int .i64 f] 38, .cells B #[.int .i64 w, .int .i64 h, .int .i64 mx, .slice a n c] 35] [] wr) (fun i _ => (r2 - intOf i).toNat)
                case atStart => exact ⟨r0, 0, ln, g, cp, by omega, by omega, by omega, rfl, by rw [HLN.out]; rfl, H180.out⟩
                case round =>
                  obtain ⟨x, j, ln, g, cp, hj, hx1, hx2, rfl, hln, hst⟩ := hrel
                  obtain ⟨u185, rfl⟩ : ∃ u185 : World, u185 = wr := ⟨_, rfl⟩
                  have H186 := hid hst
                  clear hst
                  clear HLN
                  have HLN := hid hln
                  clear hln
                  by_cases hjn : j < wd
                  · skip
                    have hjn' : (x : Int) < r2 := by omega
                    have z187 := H186.out.cell 3 rfl 0 rfl
                    have z188 := H186.out.cell 3 rfl 1 rfl
                    have z189 := H186.out.cell 3 rfl 2 rfl
                    have z190 := H186.out.cell 3 rfl 3 rfl
                    go_wp2_with fail
                    clear z187 z188 z189 z190
                    go_loopw [97, 22] (fun i s wr => ∃ jj : Nat, jj ≤ KH ∧ i = .int .i64 jj ∧ s = .int .i64 (cvS w h zs p f KW KH ws x y (jj * KW)) ∧ St B W [.own (.slice (some ⟨g, 0, none⟩) ln cp) (gridL F wd k j), .cells D156 #[.int .i64 (r2 - r0), .int .i64 (r3 - r1), .int .i64 out, .slice (some ⟨g, 0, none⟩) ln cp] 35, .cells (B + 1 + 1 + 1) #[.int .i64 0, .int .i64 0, .int .i64 0, .slice none 0 0] 35, .cells (B + 1 + 1) #[.int .i64 r0, .int .i64 r1, .int .i64 r2, .int .i64 r3] 33, .cells (B + 1) #[.int .i64 p, .int .i64 f] 38, .cells B #[.int .i64 w, .int .i64 h, .int .i64 mx, .slice a n c] 35] [] wr) (fun i _ _ => KH - (intOf i).toNat)
                    case atStart => exact ⟨0, by omega, rfl, by rw [Nat.zero_mul]; rfl, H186.out⟩
                    case round =>
                      obtain ⟨jj, hjj, rfl, rfl, hst⟩ := hrel
                      obtain ⟨u191, rfl⟩ : ∃ u191 : World, u191 = wr := ⟨_, rfl⟩
                      have H192 := hid hst
                      clear hst
                      have hjle : jj * KW ≤ ws.length := by rw [HKL.out]; exact Nat.mul_le_mul_right _ hjj
                      obtain ⟨S1a, S1b⟩ := cvS_bd HV.out HB.out HWA.out KW KH x y (n := jj * KW) (hjle) k6
                      obtain ⟨S1, hS1⟩ : ∃ xx', cvS w h zs p f KW KH ws x y (jj * KW) = xx' := ⟨_, rfl⟩
                      rw [hS1] at S1a S1b ⊢
                      have HS1 := hid hS1
                      clear hS1
                      by_cases hjh : jj < KH
                      · skip
                        have hjh' : (jj : Int) < KH := by omega
                        obtain ⟨JK, hJK⟩ : ∃ m : Nat, jj * KW = m := ⟨_, rfl⟩
                        have hJM : (jj : Int) * (KW : Int) = (JK : Int) := by rw [← hJK]; simp
                        have hjl : JK + KW ≤ ws.length := by
                          have e1 := Nat.mul_le_mul_right KW (show jj + 1 ≤ KH by omega)
                          rw [Nat.add_mul, Nat.one_mul, hJK] at e1
                          rw [HKL.out]; exact e1
                        have HJK := hid hJK
                        rw [hJK] at HS1 hjle
                        clear hJK
                        have wJ : IntKind.i64.wrap (JK : Int) = JK := IntWalk.i64_in _ (by omega)
                        go_wp2_with fail
                        go_loopw [101, 22] (fun i s wr => ∃ ii : Nat, ii ≤ KW ∧ i = .int .i64 ii ∧ s = .int .i64 (cvS w h zs p f KW KH ws x y (JK + ii)) ∧ St B W [.own (.slice (some ⟨g, 0, none⟩) ln cp) (gridL F wd k j), .cells D156 #[.int .i64 (r2 - r0), .int .i64 (r3 - r1), .int .i64 out, .slice (some ⟨g, 0, none⟩) ln cp] 35, .cells (B + 1 + 1 + 1) #[.int .i64 0, .int .i64 0, .int .i64 0, .slice none 0 0] 35, .cells (B + 1 + 1) #[.int .i64 r0, .int .i64 r1, .int .i64 r2, .int .i64 r3] 33, .cells (B + 1) #[.int .i64 p, .int .i64 f] 38, .cells B #[.int .i64 w, .int .i64 h, .int .i64 mx, .slice a n c] 35] [] wr) (fun i _ _ => KW - (intOf i).toNat)
                        case atStart => exact ⟨0, by omega, rfl, by rw [Nat.add_zero, HS1.out], H192.out⟩
                        case round =>
                          obtain ⟨ii, hii, rfl, rfl, hst⟩ := hrel
                          obtain ⟨u193, rfl⟩ : ∃ u193 : World, u193 = wr := ⟨_, rfl⟩
                          have H194 := hid hst
                          clear hst
                          obtain ⟨S2a, S2b⟩ := cvS_bd HV.out HB.out HWA.out KW KH x y (n := JK + ii) (by omega) k6
                          obtain ⟨S2, hS2⟩ : ∃ xx', cvS w h zs p f KW KH ws x y (JK + ii) = xx' := ⟨_, rfl⟩
                          rw [hS2] at S2a S2b ⊢
                          have HS2 := hid hS2
                          clear hS2
                          by_cases hik : ii < KW
                          · skip
                            have hik' : (ii : Int) < KW := by omega
                            go_upto_region 23 with fail
                            have hwl : JK + ii < wn := by have := HLW.out; omega
                            obtain ⟨wz, hwz⟩ : ∃ xx', ws.getD (JK + ii) 0 = xx' := ⟨_, rfl⟩
                            have hzw := hid (show -32767 ≤ wz ∧ wz ≤ 32767 from by rw [← hwz]; exact wAll_iff.1 HWA.out _ (by omega))
                            have HWZ := hid hwz
                            clear hwz
                            have wi : IntKind.i64.wrap ((JK : Int) + ii) = (JK : Int) + ii := IntWalk.i64_in _ (by omega)
                            have wi2 : ((JK : Int) + ii).toNat = JK + ii := by omega
                            have wi3 : (0 : Int) ≤ (JK : Int) + ii := by omega
                            have wi4 : (JK : Int) + ii < wn := by omega
                            have wa1 : IntKind.i64.wrap kw2 = kw2 := IntWalk.i64_in _ (by omega)
                            have wa2 : IntKind.i64.wrap kh2 = kh2 := IntWalk.i64_in _ (by omega)
                            have wa3 : IntKind.i64.wrap (x + (ii : Int)) = x + (ii : Int) := IntWalk.i64_in _ (by omega)
                            have wa4 : IntKind.i64.wrap (x + (ii : Int) - kw2) = x + (ii : Int) - kw2 := IntWalk.i64_in _ (by omega)
                            have wa5 : IntKind.i64.wrap (y + (jj : Int)) = y + (jj : Int) := IntWalk.i64_in _ (by omega)
                            have wa6 : IntKind.i64.wrap (y + (jj : Int) - kh2) = y + (jj : Int) - kh2 := IntWalk.i64_in _ (by omega)
                            have H195 := hid H194.out.drew
                            refine wp_region_held_drew (S := (fun w' => w'.cell? ⟨B, 0, none⟩ = some (.int .i64 w) ∧ w'.cell? ⟨B, 1, none⟩ = some (.int .i64 h) ∧ w'.cell? ⟨B, 2, none⟩ = some (.int .i64 mx) ∧ w'.cell? ⟨B, 3, none⟩ = some (.slice a n c) ∧ w'.cell? ⟨B + 1, 0, none⟩ = some (.int .i64 p) ∧ w'.cell? ⟨B + 1, 1, none⟩ = some (.int .i64 f) ∧ w'.cell? ⟨wb, wo + (JK + ii), none⟩ = some (.int .i64 wz))) (by kernel_rfl) ⟨H195.out.cell 5 rfl 0 rfl, H195.out.cell 5 rfl 1 rfl, H195.out.cell 5 rfl 2 rfl, H195.out.cell 5 rfl 3 rfl, H195.out.cell 4 rfl 0 rfl, H195.out.cell 4 rfl 1 rfl, (by have := row_cell (H195.out.old HW.out).row (j := JK + ii) hwl; rw [HWZ.out] at this; exact this)⟩ (fun hHeld => ?_)
                            generalize u193.drew = k196 at *
                            refine wpAnyH_take (i := 0) (oi := _) (v := ?_) rfl (by kernel_rfl) (by kernel_rfl) (by kernel_rfl) (fun _ _ _ h => h) (Or.inl ⟨by rfl, ?_⟩) (by assumption) ?_
                            rotate_left
                            focus (intro wS hSw; (try dsimp only at hSw); go_simp; (try with_reducible rfl))
                            try simp only [Act.put, List.getElem_toArray, List.getElem_cons_zero, List.getElem_cons_succ, List.setIfInBounds_toArray, List.set_cons_zero, List.set_cons_succ]
                            refine wpAnyH_take (i := 1) (oi := _) (v := ?_) rfl (by kernel_rfl) (by kernel_rfl) (by kernel_rfl) (fun _ _ _ h => h) (Or.inl ⟨by rfl, ?_⟩) (by assumption) ?_
                            rotate_left
                            focus (intro wS hSw; (try dsimp only at hSw); go_simp; (try with_reducible rfl))
                            try simp only [Act.put, List.getElem_toArray, List.getElem_cons_zero, List.getElem_cons_succ, List.setIfInBounds_toArray, List.set_cons_zero, List.set_cons_succ]
                            refine wpAnyH_take (i := 2) (oi := _) (v := ?_) rfl (by kernel_rfl) (by kernel_rfl) (by kernel_rfl) (fun _ _ _ h => h) (Or.inl ⟨by rfl, ?_⟩) (by assumption) ?_
                            rotate_left
                            focus (intro wS hSw; (try dsimp only at hSw); go_simp; (try with_reducible rfl))
                            try simp only [Act.put, List.getElem_toArray, List.getElem_cons_zero, List.getElem_cons_succ, List.setIfInBounds_toArray, List.set_cons_zero, List.set_cons_succ]
                            refine wpAnyH_take (i := 3) (oi := _) (v := ?_) rfl (by kernel_rfl) (by kernel_rfl) (by kernel_rfl) (fun _ _ _ h => h) (Or.inl ⟨by rfl, ?_⟩) (by assumption) ?_
                            rotate_left
                            focus (intro wS hSw; (try dsimp only at hSw); go_simp; (try with_reducible rfl))
                            try simp only [Act.put, List.getElem_toArray, List.getElem_cons_zero, List.getElem_cons_succ, List.setIfInBounds_toArray, List.set_cons_zero, List.set_cons_succ]
                            refine wpAnyH_take (i := 4) (oi := _) (v := ?_) rfl (by kernel_rfl) (by kernel_rfl) (by kernel_rfl) (fun _ _ _ h => h) (Or.inl ⟨by rfl, ?_⟩) (by assumption) ?_
                            rotate_left
                            focus (intro wS hSw; (try dsimp only at hSw); go_simp; (try with_reducible rfl))
                            try simp only [Act.put, List.getElem_toArray, List.getElem_cons_zero, List.getElem_cons_succ, List.setIfInBounds_toArray, List.set_cons_zero, List.set_cons_succ]
                            refine wpAnyH_take (i := 5) (oi := _) (v := ?_) rfl (by kernel_rfl) (by kernel_rfl) (by kernel_rfl) (fun _ _ _ h => h) (Or.inl ⟨by rfl, ?_⟩) (by assumption) ?_
                            rotate_left
                            focus (intro wS hSw; (try dsimp only at hSw); go_simp; (try with_reducible rfl))
                            try simp only [Act.put, List.getElem_toArray, List.getElem_cons_zero, List.getElem_cons_succ, List.setIfInBounds_toArray, List.set_cons_zero, List.set_cons_succ]
                            refine wpAnyH_take (i := 6) (oi := _) (v := ?_) rfl (by kernel_rfl) (by kernel_rfl) (by kernel_rfl) (fun _ _ _ h => h) (Or.inl ⟨by rfl, ?_⟩) (by assumption) ?_
                            rotate_left
                            focus (intro wS hSw; (try dsimp only at hSw); go_simp; (try with_reducible rfl))
                            try simp only [Act.put, List.getElem_toArray, List.getElem_cons_zero, List.getElem_cons_succ, List.setIfInBounds_toArray, List.set_cons_zero, List.set_cons_succ]
                            refine wpAnyH_take (i := 7) (oi := _) (v := ?_) rfl (by kernel_rfl) (by kernel_rfl) (by kernel_rfl) (fun _ _ _ h => h) (Or.inl ⟨by rfl, ?_⟩) (by assumption) ?_
                            rotate_left
                            focus (intro wS hSw; (try dsimp only at hSw); go_simp; (try with_reducible rfl))
                            try simp only [Act.put, List.getElem_toArray, List.getElem_cons_zero, List.getElem_cons_succ, List.setIfInBounds_toArray, List.set_cons_zero, List.set_cons_succ]
                            refine wpAnyH_take (i := 8) (oi := _) (v := ?_) rfl (by kernel_rfl) (by kernel_rfl) (by kernel_rfl) (fun _ _ _ h => h) (Or.inl ⟨by rfl, ?_⟩) (by assumption) ?_
                            rotate_left
                            focus (intro wS hSw; (try dsimp only at hSw); go_simp; (try with_reducible rfl))
                            try simp only [Act.put, List.getElem_toArray, List.getElem_cons_zero, List.getElem_cons_succ, List.setIfInBounds_toArray, List.set_cons_zero, List.set_cons_succ]
                            refine wpAnyH_take (i := 9) (oi := _) (v := ?_) rfl (by kernel_rfl) (by kernel_rfl) (by kernel_rfl) (fun _ _ _ h => h) (Or.inl ⟨by rfl, ?_⟩) (by assumption) ?_
                            rotate_left
                            focus (intro wS hSw; (try dsimp only at hSw); go_simp; (try with_reducible rfl))
                            try simp only [Act.put, List.getElem_toArray, List.getElem_cons_zero, List.getElem_cons_succ, List.setIfInBounds_toArray, List.set_cons_zero, List.set_cons_succ]
                            refine wpAnyH_take (i := 10) (oi := _) (v := ?_) rfl (by kernel_rfl) (by kernel_rfl) (by kernel_rfl) (fun _ _ _ h => h) (Or.inl ⟨by rfl, ?_⟩) (by assumption) ?_
                            rotate_left
                            focus (intro wS hSw; (try dsimp only at hSw); go_simp; (try with_reducible rfl))
                            try simp only [Act.put, List.getElem_toArray, List.getElem_cons_zero, List.getElem_cons_succ, List.setIfInBounds_toArray, List.set_cons_zero, List.set_cons_succ]
                            refine wpAnyH_take (i := 11) (oi := _) (v := ?_) rfl (by kernel_rfl) (by kernel_rfl) (by kernel_rfl) (fun _ _ _ h => h) (Or.inl ⟨by rfl, ?_⟩) (by assumption) ?_
                            rotate_left
                            focus (intro wS hSw; (try dsimp only at hSw); go_simp; (try with_reducible rfl))
                            try simp only [Act.put, List.getElem_toArray, List.getElem_cons_zero, List.getElem_cons_succ, List.setIfInBounds_toArray, List.set_cons_zero, List.set_cons_succ]
                            refine wpAnyH_take (i := 12) (oi := _) (v := ?_) rfl (by kernel_rfl) (by kernel_rfl) (by kernel_rfl) (fun _ _ _ h => h) (Or.inl ⟨by rfl, ?_⟩) (by assumption) ?_
                            rotate_left
                            focus (intro wS hSw; (try dsimp only at hSw); go_simp; (try with_reducible rfl))
                            try simp only [Act.put, List.getElem_toArray, List.getElem_cons_zero, List.getElem_cons_succ, List.setIfInBounds_toArray, List.set_cons_zero, List.set_cons_succ]
                            refine wpAnyH_take (i := 13) (oi := _) (v := ?_) rfl (by kernel_rfl) (by kernel_rfl) (by kernel_rfl) (fun _ _ _ h => h) (Or.inl ⟨by rfl, ?_⟩) (by assumption) ?_
                            rotate_left
                            focus (intro wS hSw; (try dsimp only at hSw); go_simp; (try with_reducible rfl))
                            try simp only [Act.put, List.getElem_toArray, List.getElem_cons_zero, List.getElem_cons_succ, List.setIfInBounds_toArray, List.set_cons_zero, List.set_cons_succ]
                            refine wpAnyH_take (i := 14) (oi := _) (v := ?_) rfl (by kernel_rfl) (by kernel_rfl) (by kernel_rfl) (fun _ _ _ h => h) (Or.inl ⟨by rfl, ?_⟩) (by assumption) ?_
                            rotate_left
                            focus (intro wS hSw; (try dsimp only at hSw); go_simp; (try with_reducible rfl))
                            try simp only [Act.put, List.getElem_toArray, List.getElem_cons_zero, List.getElem_cons_succ, List.setIfInBounds_toArray, List.set_cons_zero, List.set_cons_succ]
                            refine wpAnyH_take (i := 15) (oi := _) (v := ?_) rfl (by kernel_rfl) (by kernel_rfl) (by kernel_rfl) (fun _ _ _ h => h) (Or.inl ⟨by rfl, ?_⟩) (by assumption) ?_
                            rotate_left
                            focus (intro wS hSw; (try dsimp only at hSw); go_simp; (try with_reducible rfl))
                            try simp only [Act.put, List.getElem_toArray, List.getElem_cons_zero, List.getElem_cons_succ, List.setIfInBounds_toArray, List.set_cons_zero, List.set_cons_succ]
                            refine wpAnyH_take (i := 16) (oi := _) (v := ?_) rfl (by kernel_rfl) (by kernel_rfl) (by kernel_rfl) (fun _ _ _ h => h) (Or.inl ⟨by rfl, ?_⟩) (by assumption) ?_
                            rotate_left
                            focus (intro wS hSw; (try dsimp only at hSw); go_simp; (try with_reducible rfl))
                            try simp only [Act.put, List.getElem_toArray, List.getElem_cons_zero, List.getElem_cons_succ, List.setIfInBounds_toArray, List.set_cons_zero, List.set_cons_succ]
                            refine wpAnyH_take (i := 17) (oi := _) (v := ?_) rfl (by kernel_rfl) (by kernel_rfl) (by kernel_rfl) (fun _ _ _ h => h) (Or.inl ⟨by rfl, ?_⟩) (by assumption) ?_
                            rotate_left
                            focus (intro wS hSw; (try dsimp only at hSw); go_simp; (try with_reducible rfl))
                            try simp only [Act.put, List.getElem_toArray, List.getElem_cons_zero, List.getElem_cons_succ, List.setIfInBounds_toArray, List.set_cons_zero, List.set_cons_succ]
                            refine wpAnyH_take (i := 18) (oi := _) (v := ?_) rfl (by kernel_rfl) (by kernel_rfl) (by kernel_rfl) (fun _ _ _ h => h) (Or.inl ⟨by rfl, ?_⟩) (by assumption) ?_
                            rotate_left
                            focus (intro wS hSw; (try dsimp only at hSw); go_simp; (try with_reducible rfl))
                            try simp only [Act.put, List.getElem_toArray, List.getElem_cons_zero, List.getElem_cons_succ, List.setIfInBounds_toArray, List.set_cons_zero, List.set_cons_succ]
                            refine wpAnyH_take (i := 19) (oi := _) (v := ?_) rfl (by kernel_rfl) (by kernel_rfl) (by kernel_rfl) (fun _ _ _ h => h) (Or.inl ⟨by rfl, ?_⟩) (by assumption) ?_
                            rotate_left
                            focus (intro wS hSw; (try dsimp only at hSw); go_simp; (try with_reducible rfl))
                            try simp only [Act.put, List.getElem_toArray, List.getElem_cons_zero, List.getElem_cons_succ, List.setIfInBounds_toArray, List.set_cons_zero, List.set_cons_succ]
                            refine wpAnyH_take (i := 20) (oi := _) (v := ?_) rfl (by kernel_rfl) (by kernel_rfl) (by kernel_rfl) (fun _ _ _ h => h) (Or.inl ⟨by rfl, ?_⟩) (by assumption) ?_
                            rotate_left
                            focus (intro wS hSw; (try dsimp only at hSw); go_simp; (try with_reducible rfl))
                            try simp only [Act.put, List.getElem_toArray, List.getElem_cons_zero, List.getElem_cons_succ, List.setIfInBounds_toArray, List.set_cons_zero, List.set_cons_succ]
                            refine wpAnyH_take (i := 21) (oi := _) (v := ?_) rfl (by kernel_rfl) (by kernel_rfl) (by kernel_rfl) (fun _ _ _ h => h) (Or.inl ⟨by rfl, ?_⟩) (by assumption) ?_
                            rotate_left
                            focus (intro wS hSw; (try dsimp only at hSw); go_simp; (try with_reducible rfl))
                            try simp only [Act.put, List.getElem_toArray, List.getElem_cons_zero, List.getElem_cons_succ, List.setIfInBounds_toArray, List.set_cons_zero, List.set_cons_succ]
                            refine wpAnyH_take (i := 22) (oi := _) (v := ?_) rfl (by kernel_rfl) (by kernel_rfl) (by kernel_rfl) (fun _ _ _ h => h) (Or.inl ⟨by rfl, ?_⟩) (by assumption) ?_
                            rotate_left
                            focus (intro wS hSw; (try dsimp only at hSw); go_simp; (try with_reducible rfl))
                            try simp only [Act.put, List.getElem_toArray, List.getElem_cons_zero, List.getElem_cons_succ, List.setIfInBounds_toArray, List.set_cons_zero, List.set_cons_succ]
                            refine wpAnyH_ready (rs := [23]) (by kernel_rfl) (by simp) (AllReadyH.cons (o := _) rfl (fun K hK => ?_) AllReadyH.nil)
                            go_simp
                            go_at_call 38
                            refine (cpixel_any _ _ _ _ _ _ _ _ _ _ _ _ (H195.out.old HS.out) HV.out HB.out).mono ?_
                            rintro e w197 ⟨rfl, hb⟩
                            have H198 := hid (H195.out.call hb)
                            clear hb
                            obtain ⟨pv199, hpv199⟩ : ∃ xx', pPix w h zs p f (x + ii - kw2) (y + jj - kh2) = xx' := ⟨_, rfl⟩
                            rw [hpv199]
                            have HNpv199 := hid hpv199
                            clear hpv199
                            obtain ⟨pv1, pv2⟩ : 0 ≤ pv199 ∧ pv199 ≤ mx := by rw [← HNpv199.out]; exact pPix_bd HV.out HB.out _ _
                            obtain ⟨pr1, pr2⟩ := wm2 hzw.out ⟨pv1, show pv199 ≤ 4294967296 by omega⟩
                            have HSN0 := hid (show cvS w h zs p f KW KH ws x y (JK + ii + 1) = S2 + wz * pv199 from by rw [← HS2.out]; show cvS _ _ _ _ _ _ _ _ _ _ (JK + ii) + cvF _ _ _ _ _ _ _ _ _ _ (JK + ii) = _; rw [← HJK.out, cvF_at rfl hik, HJK.out, HWZ.out, HKW2.out, HKH2.out, HNpv199.out])
                            obtain ⟨PR, hPR⟩ : ∃ xx', wz * pv199 = xx' := ⟨_, rfl⟩
                            rw [hPR] at pr1 pr2 HSN0
                            have w8 : IntKind.i64.wrap PR = PR := IntWalk.i64_in _ (by omega)
                            have w9 : IntKind.i64.wrap (S2 + PR) = S2 + PR := IntWalk.i64_in _ (by omega)
                            refine hK.out _ _ ?_ (fun hHeld2 => ?_)
                            focus ((try dsimp only); (exact ⟨H198.out.cell 5 rfl 0 rfl, H198.out.cell 5 rfl 1 rfl, H198.out.cell 5 rfl 2 rfl, H198.out.cell 5 rfl 3 rfl, H198.out.cell 4 rfl 0 rfl, H198.out.cell 4 rfl 1 rfl, (by have := row_cell (H198.out.old HW.out).row (j := JK + ii) hwl; rw [HWZ.out] at this; exact this)⟩))
                            clear hK K
                            try simp only [Act.put, List.getElem_toArray, List.getElem_cons_zero, List.getElem_cons_succ, List.setIfInBounds_toArray, List.set_cons_zero, List.set_cons_succ]
                            clear hHeld
                            have hHeld := hHeld2
                            clear hHeld2
                            refine wpAnyH_take (i := 24) (oi := _) (v := ?_) rfl (by kernel_rfl) (by kernel_rfl) (by kernel_rfl) (fun _ _ _ h => h) (Or.inl ⟨by rfl, ?_⟩) (by assumption) ?_
                            rotate_left
                            focus (intro wS hSw; (try dsimp only at hSw); go_simp; (try with_reducible rfl))
                            try simp only [Act.put, List.getElem_toArray, List.getElem_cons_zero, List.getElem_cons_succ, List.setIfInBounds_toArray, List.set_cons_zero, List.set_cons_succ]
                            refine wpAnyH_take (i := 25) (oi := _) (v := ?_) rfl (by kernel_rfl) (by kernel_rfl) (by kernel_rfl) (fun _ _ _ h => h) (Or.inl ⟨by rfl, ?_⟩) (by assumption) ?_
                            rotate_left
                            focus (intro wS hSw; (try dsimp only at hSw); go_simp; (try with_reducible rfl))
                            try simp only [Act.put, List.getElem_toArray, List.getElem_cons_zero, List.getElem_cons_succ, List.setIfInBounds_toArray, List.set_cons_zero, List.set_cons_succ]
                            refine wpAnyH_take (i := 26) (oi := _) (v := ?_) rfl (by kernel_rfl) (by kernel_rfl) (by kernel_rfl) (fun _ _ _ h => h) (Or.inl ⟨by rfl, ?_⟩) (by assumption) ?_
                            rotate_left
                            focus (intro wS hSw; (try dsimp only at hSw); go_simp; (try with_reducible rfl))
                            try simp only [Act.put, List.getElem_toArray, List.getElem_cons_zero, List.getElem_cons_succ, List.setIfInBounds_toArray, List.set_cons_zero, List.set_cons_succ]
                            refine wpAnyH_done (by kernel_rfl) ?_ _
                            try clear hHeld
                            clear w8 w9 wi wi2 wi3 wi4 wa1 wa2 wa3 wa4 wa5 wa6
                            go_wp2_with fail
                            go_roundw
                            case rel => exact ⟨ii + 1, by omega, by go_num, by rw [← Nat.add_assoc, HSN0.out], H198.out⟩
                            case measure => first | (simp [intOf]; omega) | (simp [intOf]; done)
                          · skip
                            have hik' : ¬ ((ii : Int) < KW) := by omega
                            have Hhik := hid (show ii = KW by omega)
                            go_wp2_with fail
                            go_roundw
                            case rel => exact ⟨jj + 1, by omega, by go_num, by rw [show (jj + 1) * KW = JK + ii by have h1 := HJK.out; have h2 := Hhik.out; rw [Nat.add_mul]; omega, HS2.out], H194.out⟩
                            case measure => first | (simp [intOf]; omega) | (simp [intOf]; done)
                      · skip
                        have hjh' : ¬ ((jj : Int) < KH) := by omega
                        have Hhjh := hid (show jj = KH by omega)
                        go_upto_region 26 with fail
                        have HSF := hid (show cvS w h zs p f KW KH ws x y ws.length = S1 from by rw [show ws.length = jj * KW by rw [HKL.out, Hhjh.out]]; exact HS1.out)
                        have HFX := hid (show clV (shV S1 shift) out = F k j from by rw [← HFV.out]; unfold cvP; rw [show r0 + (j : Int) = x by omega, show r1 + (k : Int) = y by omega, HSF.out])
                        obtain ⟨fv, hfv⟩ : ∃ z, F k j = z := ⟨_, rfl⟩
                        rw [hfv] at HFX
                        have HGN := hid (show gridL F wd k j ++ [fv] = gridL F wd k (j + 1) from by rw [gridL_next, hfv])
                        clear hfv
                        have HLEN9 := hid (show (gridL F wd k (j + 1)).length = ln + 1 by rw [gridL_len, HLN.out]; omega)
                        have hln5 : ln ≤ 32768 := by have := HLN.out; have := Nat.mul_le_mul (show k ≤ 128 by omega) (show wd ≤ 128 by omega); omega
                        have H200 := hid H192.out.drew
                        refine wp_region_held_drew (S := (fun w' => w'.cell? ⟨D156, 0, none⟩ = some (.int .i64 (r2 - r0)) ∧ w'.cell? ⟨D156, 1, none⟩ = some (.int .i64 (r3 - r1)) ∧ w'.cell? ⟨D156, 2, none⟩ = some (.int .i64 out))) (by kernel_rfl) ⟨H200.out.cell 1 rfl 0 rfl, H200.out.cell 1 rfl 1 rfl, H200.out.cell 1 rfl 2 rfl⟩ (fun hHeld => ?_)
                        generalize u191.drew = k201 at *
                        refine wpAnyH_take (i := 0) (oi := _) (v := ?_) rfl (by kernel_rfl) (by kernel_rfl) (by kernel_rfl) (fun _ _ _ h => h) (Or.inl ⟨by rfl, ?_⟩) (by assumption) ?_
                        rotate_left
                        focus (intro wS hSw; (try dsimp only at hSw); go_simp; (try with_reducible rfl))
                        try simp only [Act.put, List.getElem_toArray, List.getElem_cons_zero, List.getElem_cons_succ, List.setIfInBounds_toArray, List.set_cons_zero, List.set_cons_succ]
                        refine wpAnyH_take (i := 2) (oi := _) (v := ?_) rfl (by kernel_rfl) (by kernel_rfl) (by kernel_rfl) (fun _ _ _ h => h) (Or.inl ⟨by rfl, ?_⟩) (by assumption) ?_
                        rotate_left
                        focus (intro wS hSw; (try dsimp only at hSw); go_simp; (try with_reducible rfl))
                        try simp only [Act.put, List.getElem_toArray, List.getElem_cons_zero, List.getElem_cons_succ, List.setIfInBounds_toArray, List.set_cons_zero, List.set_cons_succ]
                        refine wpAnyH_take (i := 3) (oi := _) (v := ?_) rfl (by kernel_rfl) (by kernel_rfl) (by kernel_rfl) (fun _ _ _ h => h) (Or.inl ⟨by rfl, ?_⟩) (by assumption) ?_
                        rotate_left
                        focus (intro wS hSw; (try dsimp only at hSw); go_simp; (try with_reducible rfl))
                        try simp only [Act.put, List.getElem_toArray, List.getElem_cons_zero, List.getElem_cons_succ, List.setIfInBounds_toArray, List.set_cons_zero, List.set_cons_succ]
                        refine wpAnyH_take (i := 5) (oi := _) (v := ?_) rfl (by kernel_rfl) (by kernel_rfl) (by kernel_rfl) (fun _ _ _ h => h) (Or.inl ⟨by rfl, ?_⟩) (by assumption) ?_
                        rotate_left
                        focus (intro wS hSw; (try dsimp only at hSw); go_simp; (try with_reducible rfl))
                        try simp only [Act.put, List.getElem_toArray, List.getElem_cons_zero, List.getElem_cons_succ, List.setIfInBounds_toArray, List.set_cons_zero, List.set_cons_succ]
                        refine wpAnyH_ready (rs := [1, 4]) (by kernel_rfl) (by simp) (AllReadyH.cons (o := _) rfl (fun K hK => ?_) (AllReadyH.cons (o := _) rfl (fun K hK => ?_) AllReadyH.nil))
                        · have g202 := H200.out.cell 1 rfl 3 rfl
                          go_simp
                          refine hK.out _ _ ?_ (fun hHeld2 => ?_)
                          focus ((try dsimp only); (exact hHeld))
                          clear hK K
                          try simp only [Act.put, List.getElem_toArray, List.getElem_cons_zero, List.getElem_cons_succ, List.setIfInBounds_toArray, List.set_cons_zero, List.set_cons_succ]
                          clear hHeld2 g202
                          refine wpAnyH_ready (rs := [4]) (by kernel_rfl) (by simp) (AllReadyH.cons (o := _) rfl (fun K hK => ?_) AllReadyH.nil)
                          go_simp
                          go_at_call 40
                          refine (fshift_any _ _ _).mono ?_
                          rintro e w203 ⟨rfl, hsw⟩
                          have hsw2 : k201 = w203 := by first | exact hsw | exact hsw.symm
                          clear hsw
                          subst hsw2
                          obtain ⟨sv204, hsv204⟩ : ∃ xx', shV S1 shift = xx' := ⟨_, rfl⟩
                          rw [hsv204]
                          have HNsv204 := hid hsv204
                          clear hsv204
                          refine hK.out _ _ ?_ (fun hHeld2 => ?_)
                          focus ((try dsimp only); (exact ⟨H200.out.cell 1 rfl 0 rfl, H200.out.cell 1 rfl 1 rfl, H200.out.cell 1 rfl 2 rfl⟩))
                          clear hK K
                          try simp only [Act.put, List.getElem_toArray, List.getElem_cons_zero, List.getElem_cons_succ, List.setIfInBounds_toArray, List.set_cons_zero, List.set_cons_succ]
                          clear hHeld
                          have hHeld := hHeld2
                          clear hHeld2
                          refine wpAnyH_ready (rs := [6]) (by kernel_rfl) (by simp) (AllReadyH.cons (o := _) rfl (fun K hK => ?_) AllReadyH.nil)
                          go_simp
                          go_at_call 39
                          refine (fclamp_any _ _ _).mono ?_
                          rintro e w205 ⟨rfl, hsw⟩
                          have hsw2 : k201 = w205 := by first | exact hsw | exact hsw.symm
                          clear hsw
                          subst hsw2
                          rw [show clV sv204 out = fv from by rw [← HNsv204.out]; exact HFX.out]
                          refine hK.out _ _ ?_ (fun hHeld2 => ?_)
                          focus ((try dsimp only); (exact ⟨H200.out.cell 1 rfl 0 rfl, H200.out.cell 1 rfl 1 rfl, H200.out.cell 1 rfl 2 rfl⟩))
                          clear hK K
                          try simp only [Act.put, List.getElem_toArray, List.getElem_cons_zero, List.getElem_cons_succ, List.setIfInBounds_toArray, List.set_cons_zero, List.set_cons_succ]
                          clear hHeld
                          have hHeld := hHeld2
                          clear hHeld2
                          refine wpAnyH_ready (rs := [7]) (by kernel_rfl) (by simp) (AllReadyH.cons (o := _) rfl (fun K hK => ?_) AllReadyH.nil)
                          obtain ⟨D206, hD206⟩ : ∃ D, k201.heap.size = D := ⟨_, rfl⟩
                          have H207 := hid (show St B W [.cells D206 #[.int .i64 fv] 3, .own (.slice (some ⟨g, 0, none⟩) ln cp) (gridL F wd k j), .cells D156 #[.int .i64 (r2 - r0), .int .i64 (r3 - r1), .int .i64 out, .slice (some ⟨g, 0, none⟩) ln cp] 35, .cells (B + 1 + 1 + 1) #[.int .i64 0, .int .i64 0, .int .i64 0, .slice none 0 0] 35, .cells (B + 1 + 1) #[.int .i64 r0, .int .i64 r1, .int .i64 r2, .int .i64 r3] 33, .cells (B + 1) #[.int .i64 p, .int .i64 f] 38, .cells B #[.int .i64 w, .int .i64 h, .int .i64 mx, .slice a n c] 35] [] (k201.alloc (.cells #[.int .i64 fv] 3)) from (H200.out.alloc #[.int .i64 fv] 3 hD206))
                          go_simp
                          refine hK.out _ _ ?_ (fun hHeld2 => ?_)
                          focus ((try dsimp only); (exact ⟨H207.out.cell 2 rfl 0 rfl, H207.out.cell 2 rfl 1 rfl, H207.out.cell 2 rfl 2 rfl⟩))
                          clear hK K hHeld
                          try simp only [Act.put, List.getElem_toArray, List.getElem_cons_zero, List.getElem_cons_succ, List.setIfInBounds_toArray, List.set_cons_zero, List.set_cons_succ]
                          clear hD206
                          generalize (k201.alloc (.cells #[.int .i64 fv] 3)) = k208 at *
                          have hHeld := hHeld2
                          clear hHeld2
                          refine wpAnyH_ready (rs := [8]) (by kernel_rfl) (by simp) (AllReadyH.cons (o := _) rfl (fun K hK => ?_) AllReadyH.nil)
                          rw [if_pos (by rfl)]
                          refine oper_append_int _ _ rfl B _ (gridL F wd k j) fv D206 1 rfl rfl (H207.out.own 1 rfl) (H207.out.cell 0 rfl 0 rfl) (by first | omega | (rw [gridL_len]; omega) | (have := HLEN9.out; rw [gridL_len] at *; omega)) H207.out.size ?_
                          intro v9 k210 ho hg hv
                          have H209 := hid (H207.out.append 1 rfl ho hg hv)
                          clear hg hv
                          rw [HGN.out] at H209 ho
                          obtain ⟨g9, c9, rfl⟩ := ho.pos (by rw [HLEN9.out]; omega)
                          rw [HLEN9.out] at H209 ⊢
                          clear ho
                          refine hK.out _ _ ?_ (fun hHeld2 => ?_)
                          focus ((try dsimp only); (exact ⟨H209.out.cell 2 rfl 0 rfl, H209.out.cell 2 rfl 1 rfl, H209.out.cell 2 rfl 2 rfl⟩))
                          clear hK K
                          try simp only [Act.put, List.getElem_toArray, List.getElem_cons_zero, List.getElem_cons_succ, List.setIfInBounds_toArray, List.set_cons_zero, List.set_cons_succ]
                          clear hHeld
                          have hHeld := hHeld2
                          clear hHeld2
                          refine wpAnyH_take (i := 9) (oi := _) (v := ?_) rfl (by kernel_rfl) (by kernel_rfl) (by kernel_rfl) (fun _ _ _ h => h) (Or.inl ⟨by rfl, ?_⟩) (by assumption) ?_
                          rotate_left
                          focus (intro wS hSw; (try dsimp only at hSw); go_simp; (try with_reducible rfl))
                          try simp only [Act.put, List.getElem_toArray, List.getElem_cons_zero, List.getElem_cons_succ, List.setIfInBounds_toArray, List.set_cons_zero, List.set_cons_succ]
                          refine wpAnyH_ready (rs := [10]) (by kernel_rfl) (by simp) (AllReadyH.cons (o := _) rfl (fun K hK => ?_) AllReadyH.nil)
                          have z211 := H209.out.cell 2 rfl 0 rfl
                          have z212 := H209.out.free 2 rfl 0
                          have z213 := H209.out.cell 2 rfl 1 rfl
                          have z214 := H209.out.free 2 rfl 1
                          have z215 := H209.out.cell 2 rfl 2 rfl
                          have z216 := H209.out.free 2 rfl 2
                          have z217 := H209.out.cell 2 rfl 3 rfl
                          have z218 := H209.out.free 2 rfl 3
                          have H219 := hid (show St B W [.cells D206 #[.int .i64 fv] 3, .own (.slice (some ⟨g9, 0, none⟩) (ln + 1) c9) (gridL F wd k (j + 1)), .cells D156 #[.int .i64 (r2 - r0), .int .i64 (r3 - r1), .int .i64 out, .slice (some ⟨g9, 0, none⟩) (ln + 1) c9] 35, .cells (B + 1 + 1 + 1) #[.int .i64 0, .int .i64 0, .int .i64 0, .slice none 0 0] 35, .cells (B + 1 + 1) #[.int .i64 r0, .int .i64 r1, .int .i64 r2, .int .i64 r3] 33, .cells (B + 1) #[.int .i64 p, .int .i64 f] 38, .cells B #[.int .i64 w, .int .i64 h, .int .i64 mx, .slice a n c] 35] [] (k210.setCell ⟨D156, 3, none⟩ (.slice (some ⟨g9, 0, none⟩) (ln + 1) c9)) from (H209.out.set 2 rfl 3 (.slice (some ⟨g9, 0, none⟩) (ln + 1) c9)))
                          go_simp
                          refine hK.out _ _ ?_ (fun hHeld2 => ?_)
                          focus ((try dsimp only); (exact ⟨H219.out.cell 2 rfl 0 rfl, H219.out.cell 2 rfl 1 rfl, H219.out.cell 2 rfl 2 rfl⟩))
                          clear hK K hHeld
                          try simp only [Act.put, List.getElem_toArray, List.getElem_cons_zero, List.getElem_cons_succ, List.setIfInBounds_toArray, List.set_cons_zero, List.set_cons_succ]
                          clear z211 z212 z213 z214 z215 z216 z217 z218
                          generalize (k210.setCell ⟨D156, 3, none⟩ (.slice (some ⟨g9, 0, none⟩) (ln + 1) c9)) = k220 at *
                          have hHeld := hHeld2
                          clear hHeld2
                          refine wpAnyH_done (by kernel_rfl) ?_ _
                          try clear hHeld
                          go_wp2_with fail
                          go_roundw
                          case rel => exact ⟨x + 1, j + 1, ln + 1, g9, c9, by omega, by omega, by omega, by go_num, by rw [HLN.out]; rfl, H219.out.pick [1, 2, 3, 4, 5, 6] rfl (by decide)⟩
                          case measure => first | (simp [intOf]; omega) | (simp [intOf]; done)
                        · go_simp
                          go_at_call 40
                          refine (fshift_any _ _ _).mono ?_
                          rintro e w221 ⟨rfl, hsw⟩
                          have hsw2 : k201 = w221 := by first | exact hsw | exact hsw.symm
                          clear hsw
                          subst hsw2
                          obtain ⟨sv222, hsv222⟩ : ∃ xx', shV S1 shift = xx' := ⟨_, rfl⟩
                          rw [hsv222]
                          have HNsv222 := hid hsv222
                          clear hsv222
                          refine hK.out _ _ ?_ (fun hHeld2 => ?_)
                          focus ((try dsimp only); (exact ⟨H200.out.cell 1 rfl 0 rfl, H200.out.cell 1 rfl 1 rfl, H200.out.cell 1 rfl 2 rfl⟩))
                          clear hK K
                          try simp only [Act.put, List.getElem_toArray, List.getElem_cons_zero, List.getElem_cons_succ, List.setIfInBounds_toArray, List.set_cons_zero, List.set_cons_succ]
                          clear hHeld
                          have hHeld := hHeld2
                          clear hHeld2
                          refine wpAnyH_ready (rs := [1, 6]) (by kernel_rfl) (by simp) (AllReadyH.cons (o := _) rfl (fun K hK => ?_) (AllReadyH.cons (o := _) rfl (fun K hK => ?_) AllReadyH.nil))
                          · have g223 := H200.out.cell 1 rfl 3 rfl
                            go_simp
                            refine hK.out _ _ ?_ (fun hHeld2 => ?_)
                            focus ((try dsimp only); (exact hHeld))
                            clear hK K
                            try simp only [Act.put, List.getElem_toArray, List.getElem_cons_zero, List.getElem_cons_succ, List.setIfInBounds_toArray, List.set_cons_zero, List.set_cons_succ]
                            clear hHeld2 g223
                            refine wpAnyH_ready (rs := [6]) (by kernel_rfl) (by simp) (AllReadyH.cons (o := _) rfl (fun K hK => ?_) AllReadyH.nil)
                            go_simp
                            go_at_call 39
                            refine (fclamp_any _ _ _).mono ?_
                            rintro e w224 ⟨rfl, hsw⟩
                            have hsw2 : k201 = w224 := by first | exact hsw | exact hsw.symm
                            clear hsw
                            subst hsw2
                            rw [show clV sv222 out = fv from by rw [← HNsv222.out]; exact HFX.out]
                            refine hK.out _ _ ?_ (fun hHeld2 => ?_)
                            focus ((try dsimp only); (exact ⟨H200.out.cell 1 rfl 0 rfl, H200.out.cell 1 rfl 1 rfl, H200.out.cell 1 rfl 2 rfl⟩))
                            clear hK K
                            try simp only [Act.put, List.getElem_toArray, List.getElem_cons_zero, List.getElem_cons_succ, List.setIfInBounds_toArray, List.set_cons_zero, List.set_cons_succ]
                            clear hHeld
                            have hHeld := hHeld2
                            clear hHeld2
                            refine wpAnyH_ready (rs := [7]) (by kernel_rfl) (by simp) (AllReadyH.cons (o := _) rfl (fun K hK => ?_) AllReadyH.nil)
                            obtain ⟨D225, hD225⟩ : ∃ D, k201.heap.size = D := ⟨_, rfl⟩
                            have H226 := hid (show St B W [.cells D225 #[.int .i64 fv] 3, .own (.slice (some ⟨g, 0, none⟩) ln cp) (gridL F wd k j), .cells D156 #[.int .i64 (r2 - r0), .int .i64 (r3 - r1), .int .i64 out, .slice (some ⟨g, 0, none⟩) ln cp] 35, .cells (B + 1 + 1 + 1) #[.int .i64 0, .int .i64 0, .int .i64 0, .slice none 0 0] 35, .cells (B + 1 + 1) #[.int .i64 r0, .int .i64 r1, .int .i64 r2, .int .i64 r3] 33, .cells (B + 1) #[.int .i64 p, .int .i64 f] 38, .cells B #[.int .i64 w, .int .i64 h, .int .i64 mx, .slice a n c] 35] [] (k201.alloc (.cells #[.int .i64 fv] 3)) from (H200.out.alloc #[.int .i64 fv] 3 hD225))
                            go_simp
                            refine hK.out _ _ ?_ (fun hHeld2 => ?_)
                            focus ((try dsimp only); (exact ⟨H226.out.cell 2 rfl 0 rfl, H226.out.cell 2 rfl 1 rfl, H226.out.cell 2 rfl 2 rfl⟩))
                            clear hK K hHeld
                            try simp only [Act.put, List.getElem_toArray, List.getElem_cons_zero, List.getElem_cons_succ, List.setIfInBounds_toArray, List.set_cons_zero, List.set_cons_succ]
                            clear hD225
                            generalize (k201.alloc (.cells #[.int .i64 fv] 3)) = k227 at *
                            have hHeld := hHeld2
                            clear hHeld2
                            refine wpAnyH_ready (rs := [8]) (by kernel_rfl) (by simp) (AllReadyH.cons (o := _) rfl (fun K hK => ?_) AllReadyH.nil)
                            rw [if_pos (by rfl)]
                            refine oper_append_int _ _ rfl B _ (gridL F wd k j) fv D225 1 rfl rfl (H226.out.own 1 rfl) (H226.out.cell 0 rfl 0 rfl) (by first | omega | (rw [gridL_len]; omega) | (have := HLEN9.out; rw [gridL_len] at *; omega)) H226.out.size ?_
                            intro v9 k229 ho hg hv
                            have H228 := hid (H226.out.append 1 rfl ho hg hv)
                            clear hg hv
                            rw [HGN.out] at H228 ho
                            obtain ⟨g9, c9, rfl⟩ := ho.pos (by rw [HLEN9.out]; omega)
                            rw [HLEN9.out] at H228 ⊢
                            clear ho
                            refine hK.out _ _ ?_ (fun hHeld2 => ?_)
                            focus ((try dsimp only); (exact ⟨H228.out.cell 2 rfl 0 rfl, H228.out.cell 2 rfl 1 rfl, H228.out.cell 2 rfl 2 rfl⟩))
                            clear hK K
                            try simp only [Act.put, List.getElem_toArray, List.getElem_cons_zero, List.getElem_cons_succ, List.setIfInBounds_toArray, List.set_cons_zero, List.set_cons_succ]
                            clear hHeld
                            have hHeld := hHeld2
                            clear hHeld2
                            refine wpAnyH_take (i := 9) (oi := _) (v := ?_) rfl (by kernel_rfl) (by kernel_rfl) (by kernel_rfl) (fun _ _ _ h => h) (Or.inl ⟨by rfl, ?_⟩) (by assumption) ?_
                            rotate_left
                            focus (intro wS hSw; (try dsimp only at hSw); go_simp; (try with_reducible rfl))
                            try simp only [Act.put, List.getElem_toArray, List.getElem_cons_zero, List.getElem_cons_succ, List.setIfInBounds_toArray, List.set_cons_zero, List.set_cons_succ]
                            refine wpAnyH_ready (rs := [10]) (by kernel_rfl) (by simp) (AllReadyH.cons (o := _) rfl (fun K hK => ?_) AllReadyH.nil)
                            have z230 := H228.out.cell 2 rfl 0 rfl
                            have z231 := H228.out.free 2 rfl 0
                            have z232 := H228.out.cell 2 rfl 1 rfl
                            have z233 := H228.out.free 2 rfl 1
                            have z234 := H228.out.cell 2 rfl 2 rfl
                            have z235 := H228.out.free 2 rfl 2
                            have z236 := H228.out.cell 2 rfl 3 rfl
                            have z237 := H228.out.free 2 rfl 3
                            have H238 := hid (show St B W [.cells D225 #[.int .i64 fv] 3, .own (.slice (some ⟨g9, 0, none⟩) (ln + 1) c9) (gridL F wd k (j + 1)), .cells D156 #[.int .i64 (r2 - r0), .int .i64 (r3 - r1), .int .i64 out, .slice (some ⟨g9, 0, none⟩) (ln + 1) c9] 35, .cells (B + 1 + 1 + 1) #[.int .i64 0, .int .i64 0, .int .i64 0, .slice none 0 0] 35, .cells (B + 1 + 1) #[.int .i64 r0, .int .i64 r1, .int .i64 r2, .int .i64 r3] 33, .cells (B + 1) #[.int .i64 p, .int .i64 f] 38, .cells B #[.int .i64 w, .int .i64 h, .int .i64 mx, .slice a n c] 35] [] (k229.setCell ⟨D156, 3, none⟩ (.slice (some ⟨g9, 0, none⟩) (ln + 1) c9)) from (H228.out.set 2 rfl 3 (.slice (some ⟨g9, 0, none⟩) (ln + 1) c9)))
                            go_simp
                            refine hK.out _ _ ?_ (fun hHeld2 => ?_)
                            focus ((try dsimp only); (exact ⟨H238.out.cell 2 rfl 0 rfl, H238.out.cell 2 rfl 1 rfl, H238.out.cell 2 rfl 2 rfl⟩))
                            clear hK K hHeld
                            try simp only [Act.put, List.getElem_toArray, List.getElem_cons_zero, List.getElem_cons_succ, List.setIfInBounds_toArray, List.set_cons_zero, List.set_cons_succ]
                            clear z230 z231 z232 z233 z234 z235 z236 z237
                            generalize (k229.setCell ⟨D156, 3, none⟩ (.slice (some ⟨g9, 0, none⟩) (ln + 1) c9)) = k239 at *
                            have hHeld := hHeld2
                            clear hHeld2
                            refine wpAnyH_done (by kernel_rfl) ?_ _
                            try clear hHeld
                            go_wp2_with fail
                            go_roundw
                            case rel => exact ⟨x + 1, j + 1, ln + 1, g9, c9, by omega, by omega, by omega, by go_num, by rw [HLN.out]; rfl, H238.out.pick [1, 2, 3, 4, 5, 6] rfl (by decide)⟩
                            case measure => first | (simp [intOf]; omega) | (simp [intOf]; done)
                          · go_simp
                            go_at_call 39
                            refine (fclamp_any _ _ _).mono ?_
                            rintro e w240 ⟨rfl, hsw⟩
                            have hsw2 : k201 = w240 := by first | exact hsw | exact hsw.symm
                            clear hsw
                            subst hsw2
                            rw [show clV sv222 out = fv from by rw [← HNsv222.out]; exact HFX.out]
                            refine hK.out _ _ ?_ (fun hHeld2 => ?_)
                            focus ((try dsimp only); (exact ⟨H200.out.cell 1 rfl 0 rfl, H200.out.cell 1 rfl 1 rfl, H200.out.cell 1 rfl 2 rfl⟩))
                            clear hK K
                            try simp only [Act.put, List.getElem_toArray, List.getElem_cons_zero, List.getElem_cons_succ, List.setIfInBounds_toArray, List.set_cons_zero, List.set_cons_succ]
                            clear hHeld
                            have hHeld := hHeld2
                            clear hHeld2
                            refine wpAnyH_ready (rs := [1, 7]) (by kernel_rfl) (by simp) (AllReadyH.cons (o := _) rfl (fun K hK => ?_) (AllReadyH.cons (o := _) rfl (fun K hK => ?_) AllReadyH.nil))
                            · have g241 := H200.out.cell 1 rfl 3 rfl
                              go_simp
                              refine hK.out _ _ ?_ (fun hHeld2 => ?_)
                              focus ((try dsimp only); (exact hHeld))
                              clear hK K
                              try simp only [Act.put, List.getElem_toArray, List.getElem_cons_zero, List.getElem_cons_succ, List.setIfInBounds_toArray, List.set_cons_zero, List.set_cons_succ]
                              clear hHeld2 g241
                              refine wpAnyH_ready (rs := [7]) (by kernel_rfl) (by simp) (AllReadyH.cons (o := _) rfl (fun K hK => ?_) AllReadyH.nil)
                              obtain ⟨D242, hD242⟩ : ∃ D, k201.heap.size = D := ⟨_, rfl⟩
                              have H243 := hid (show St B W [.cells D242 #[.int .i64 fv] 3, .own (.slice (some ⟨g, 0, none⟩) ln cp) (gridL F wd k j), .cells D156 #[.int .i64 (r2 - r0), .int .i64 (r3 - r1), .int .i64 out, .slice (some ⟨g, 0, none⟩) ln cp] 35, .cells (B + 1 + 1 + 1) #[.int .i64 0, .int .i64 0, .int .i64 0, .slice none 0 0] 35, .cells (B + 1 + 1) #[.int .i64 r0, .int .i64 r1, .int .i64 r2, .int .i64 r3] 33, .cells (B + 1) #[.int .i64 p, .int .i64 f] 38, .cells B #[.int .i64 w, .int .i64 h, .int .i64 mx, .slice a n c] 35] [] (k201.alloc (.cells #[.int .i64 fv] 3)) from (H200.out.alloc #[.int .i64 fv] 3 hD242))
                              go_simp
                              refine hK.out _ _ ?_ (fun hHeld2 => ?_)
                              focus ((try dsimp only); (exact ⟨H243.out.cell 2 rfl 0 rfl, H243.out.cell 2 rfl 1 rfl, H243.out.cell 2 rfl 2 rfl⟩))
                              clear hK K hHeld
                              try simp only [Act.put, List.getElem_toArray, List.getElem_cons_zero, List.getElem_cons_succ, List.setIfInBounds_toArray, List.set_cons_zero, List.set_cons_succ]
                              clear hD242
                              generalize (k201.alloc (.cells #[.int .i64 fv] 3)) = k244 at *
                              have hHeld := hHeld2
                              clear hHeld2
                              refine wpAnyH_ready (rs := [8]) (by kernel_rfl) (by simp) (AllReadyH.cons (o := _) rfl (fun K hK => ?_) AllReadyH.nil)
                              rw [if_pos (by rfl)]
                              refine oper_append_int _ _ rfl B _ (gridL F wd k j) fv D242 1 rfl rfl (H243.out.own 1 rfl) (H243.out.cell 0 rfl 0 rfl) (by first | omega | (rw [gridL_len]; omega) | (have := HLEN9.out; rw [gridL_len] at *; omega)) H243.out.size ?_
                              intro v9 k246 ho hg hv
                              have H245 := hid (H243.out.append 1 rfl ho hg hv)
                              clear hg hv
                              rw [HGN.out] at H245 ho
                              obtain ⟨g9, c9, rfl⟩ := ho.pos (by rw [HLEN9.out]; omega)
                              rw [HLEN9.out] at H245 ⊢
                              clear ho
                              refine hK.out _ _ ?_ (fun hHeld2 => ?_)
                              focus ((try dsimp only); (exact ⟨H245.out.cell 2 rfl 0 rfl, H245.out.cell 2 rfl 1 rfl, H245.out.cell 2 rfl 2 rfl⟩))
                              clear hK K
                              try simp only [Act.put, List.getElem_toArray, List.getElem_cons_zero, List.getElem_cons_succ, List.setIfInBounds_toArray, List.set_cons_zero, List.set_cons_succ]
                              clear hHeld
                              have hHeld := hHeld2
                              clear hHeld2
                              refine wpAnyH_take (i := 9) (oi := _) (v := ?_) rfl (by kernel_rfl) (by kernel_rfl) (by kernel_rfl) (fun _ _ _ h => h) (Or.inl ⟨by rfl, ?_⟩) (by assumption) ?_
                              rotate_left
                              focus (intro wS hSw; (try dsimp only at hSw); go_simp; (try with_reducible rfl))
                              try simp only [Act.put, List.getElem_toArray, List.getElem_cons_zero, List.getElem_cons_succ, List.setIfInBounds_toArray, List.set_cons_zero, List.set_cons_succ]
                              refine wpAnyH_ready (rs := [10]) (by kernel_rfl) (by simp) (AllReadyH.cons (o := _) rfl (fun K hK => ?_) AllReadyH.nil)
                              have z247 := H245.out.cell 2 rfl 0 rfl
                              have z248 := H245.out.free 2 rfl 0
                              have z249 := H245.out.cell 2 rfl 1 rfl
                              have z250 := H245.out.free 2 rfl 1
                              have z251 := H245.out.cell 2 rfl 2 rfl
                              have z252 := H245.out.free 2 rfl 2
                              have z253 := H245.out.cell 2 rfl 3 rfl
                              have z254 := H245.out.free 2 rfl 3
                              have H255 := hid (show St B W [.cells D242 #[.int .i64 fv] 3, .own (.slice (some ⟨g9, 0, none⟩) (ln + 1) c9) (gridL F wd k (j + 1)), .cells D156 #[.int .i64 (r2 - r0), .int .i64 (r3 - r1), .int .i64 out, .slice (some ⟨g9, 0, none⟩) (ln + 1) c9] 35, .cells (B + 1 + 1 + 1) #[.int .i64 0, .int .i64 0, .int .i64 0, .slice none 0 0] 35, .cells (B + 1 + 1) #[.int .i64 r0, .int .i64 r1, .int .i64 r2, .int .i64 r3] 33, .cells (B + 1) #[.int .i64 p, .int .i64 f] 38, .cells B #[.int .i64 w, .int .i64 h, .int .i64 mx, .slice a n c] 35] [] (k246.setCell ⟨D156, 3, none⟩ (.slice (some ⟨g9, 0, none⟩) (ln + 1) c9)) from (H245.out.set 2 rfl 3 (.slice (some ⟨g9, 0, none⟩) (ln + 1) c9)))
                              go_simp
                              refine hK.out _ _ ?_ (fun hHeld2 => ?_)
                              focus ((try dsimp only); (exact ⟨H255.out.cell 2 rfl 0 rfl, H255.out.cell 2 rfl 1 rfl, H255.out.cell 2 rfl 2 rfl⟩))
                              clear hK K hHeld
                              try simp only [Act.put, List.getElem_toArray, List.getElem_cons_zero, List.getElem_cons_succ, List.setIfInBounds_toArray, List.set_cons_zero, List.set_cons_succ]
                              clear z247 z248 z249 z250 z251 z252 z253 z254
                              generalize (k246.setCell ⟨D156, 3, none⟩ (.slice (some ⟨g9, 0, none⟩) (ln + 1) c9)) = k256 at *
                              have hHeld := hHeld2
                              clear hHeld2
                              refine wpAnyH_done (by kernel_rfl) ?_ _
                              try clear hHeld
                              go_wp2_with fail
                              go_roundw
                              case rel => exact ⟨x + 1, j + 1, ln + 1, g9, c9, by omega, by omega, by omega, by go_num, by rw [HLN.out]; rfl, H255.out.pick [1, 2, 3, 4, 5, 6] rfl (by decide)⟩
                              case measure => first | (simp [intOf]; omega) | (simp [intOf]; done)
                            · obtain ⟨D257, hD257⟩ : ∃ D, k201.heap.size = D := ⟨_, rfl⟩
                              have H258 := hid (show St B W [.cells D257 #[.int .i64 fv] 3, .own (.slice (some ⟨g, 0, none⟩) ln cp) (gridL F wd k j), .cells D156 #[.int .i64 (r2 - r0), .int .i64 (r3 - r1), .int .i64 out, .slice (some ⟨g, 0, none⟩) ln cp] 35, .cells (B + 1 + 1 + 1) #[.int .i64 0, .int .i64 0, .int .i64 0, .slice none 0 0] 35, .cells (B + 1 + 1) #[.int .i64 r0, .int .i64 r1, .int .i64 r2, .int .i64 r3] 33, .cells (B + 1) #[.int .i64 p, .int .i64 f] 38, .cells B #[.int .i64 w, .int .i64 h, .int .i64 mx, .slice a n c] 35] [] (k201.alloc (.cells #[.int .i64 fv] 3)) from (H200.out.alloc #[.int .i64 fv] 3 hD257))
                              go_simp
                              refine hK.out _ _ ?_ (fun hHeld2 => ?_)
                              focus ((try dsimp only); (exact ⟨H258.out.cell 2 rfl 0 rfl, H258.out.cell 2 rfl 1 rfl, H258.out.cell 2 rfl 2 rfl⟩))
                              clear hK K hHeld
                              try simp only [Act.put, List.getElem_toArray, List.getElem_cons_zero, List.getElem_cons_succ, List.setIfInBounds_toArray, List.set_cons_zero, List.set_cons_succ]
                              clear hD257
                              generalize (k201.alloc (.cells #[.int .i64 fv] 3)) = k259 at *
                              have hHeld := hHeld2
                              clear hHeld2
                              refine wpAnyH_ready (rs := [1]) (by kernel_rfl) (by simp) (AllReadyH.cons (o := _) rfl (fun K hK => ?_) AllReadyH.nil)
                              have g260 := H258.out.cell 2 rfl 3 rfl
                              go_simp
                              refine hK.out _ _ ?_ (fun hHeld2 => ?_)
                              focus ((try dsimp only); (exact hHeld))
                              clear hK K
                              try simp only [Act.put, List.getElem_toArray, List.getElem_cons_zero, List.getElem_cons_succ, List.setIfInBounds_toArray, List.set_cons_zero, List.set_cons_succ]
                              clear hHeld2 g260
                              refine wpAnyH_ready (rs := [8]) (by kernel_rfl) (by simp) (AllReadyH.cons (o := _) rfl (fun K hK => ?_) AllReadyH.nil)
                              rw [if_pos (by rfl)]
                              refine oper_append_int _ _ rfl B _ (gridL F wd k j) fv D257 1 rfl rfl (H258.out.own 1 rfl) (H258.out.cell 0 rfl 0 rfl) (by first | omega | (rw [gridL_len]; omega) | (have := HLEN9.out; rw [gridL_len] at *; omega)) H258.out.size ?_
                              intro v9 k262 ho hg hv
                              have H261 := hid (H258.out.append 1 rfl ho hg hv)
                              clear hg hv
                              rw [HGN.out] at H261 ho
                              obtain ⟨g9, c9, rfl⟩ := ho.pos (by rw [HLEN9.out]; omega)
                              rw [HLEN9.out] at H261 ⊢
                              clear ho
                              refine hK.out _ _ ?_ (fun hHeld2 => ?_)
                              focus ((try dsimp only); (exact ⟨H261.out.cell 2 rfl 0 rfl, H261.out.cell 2 rfl 1 rfl, H261.out.cell 2 rfl 2 rfl⟩))
                              clear hK K
                              try simp only [Act.put, List.getElem_toArray, List.getElem_cons_zero, List.getElem_cons_succ, List.setIfInBounds_toArray, List.set_cons_zero, List.set_cons_succ]
                              clear hHeld
                              have hHeld := hHeld2
                              clear hHeld2
                              refine wpAnyH_take (i := 9) (oi := _) (v := ?_) rfl (by kernel_rfl) (by kernel_rfl) (by kernel_rfl) (fun _ _ _ h => h) (Or.inl ⟨by rfl, ?_⟩) (by assumption) ?_
                              rotate_left
                              focus (intro wS hSw; (try dsimp only at hSw); go_simp; (try with_reducible rfl))
                              try simp only [Act.put, List.getElem_toArray, List.getElem_cons_zero, List.getElem_cons_succ, List.setIfInBounds_toArray, List.set_cons_zero, List.set_cons_succ]
                              refine wpAnyH_ready (rs := [10]) (by kernel_rfl) (by simp) (AllReadyH.cons (o := _) rfl (fun K hK => ?_) AllReadyH.nil)
                              have z263 := H261.out.cell 2 rfl 0 rfl
                              have z264 := H261.out.free 2 rfl 0
                              have z265 := H261.out.cell 2 rfl 1 rfl
                              have z266 := H261.out.free 2 rfl 1
                              have z267 := H261.out.cell 2 rfl 2 rfl
                              have z268 := H261.out.free 2 rfl 2
                              have z269 := H261.out.cell 2 rfl 3 rfl
                              have z270 := H261.out.free 2 rfl 3
                              have H271 := hid (show St B W [.cells D257 #[.int .i64 fv] 3, .own (.slice (some ⟨g9, 0, none⟩) (ln + 1) c9) (gridL F wd k (j + 1)), .cells D156 #[.int .i64 (r2 - r0), .int .i64 (r3 - r1), .int .i64 out, .slice (some ⟨g9, 0, none⟩) (ln + 1) c9] 35, .cells (B + 1 + 1 + 1) #[.int .i64 0, .int .i64 0, .int .i64 0, .slice none 0 0] 35, .cells (B + 1 + 1) #[.int .i64 r0, .int .i64 r1, .int .i64 r2, .int .i64 r3] 33, .cells (B + 1) #[.int .i64 p, .int .i64 f] 38, .cells B #[.int .i64 w, .int .i64 h, .int .i64 mx, .slice a n c] 35] [] (k262.setCell ⟨D156, 3, none⟩ (.slice (some ⟨g9, 0, none⟩) (ln + 1) c9)) from (H261.out.set 2 rfl 3 (.slice (some ⟨g9, 0, none⟩) (ln + 1) c9)))
                              go_simp
                              refine hK.out _ _ ?_ (fun hHeld2 => ?_)
                              focus ((try dsimp only); (exact ⟨H271.out.cell 2 rfl 0 rfl, H271.out.cell 2 rfl 1 rfl, H271.out.cell 2 rfl 2 rfl⟩))
                              clear hK K hHeld
                              try simp only [Act.put, List.getElem_toArray, List.getElem_cons_zero, List.getElem_cons_succ, List.setIfInBounds_toArray, List.set_cons_zero, List.set_cons_succ]
                              clear z263 z264 z265 z266 z267 z268 z269 z270
                              generalize (k262.setCell ⟨D156, 3, none⟩ (.slice (some ⟨g9, 0, none⟩) (ln + 1) c9)) = k272 at *
                              have hHeld := hHeld2
                              clear hHeld2
                              refine wpAnyH_done (by kernel_rfl) ?_ _
                              try clear hHeld
                              go_wp2_with fail
                              go_roundw
                              case rel => exact ⟨x + 1, j + 1, ln + 1, g9, c9, by omega, by omega, by omega, by go_num, by rw [HLN.out]; rfl, H271.out.pick [1, 2, 3, 4, 5, 6] rfl (by decide)⟩
                              case measure => first | (simp [intOf]; omega) | (simp [intOf]; done)
                  · skip
                    have hjn' : ¬ ((x : Int) < r2) := by omega
                    have Hhjn := hid (show j = wd by omega)
                    have z273 := H186.out.cell 3 rfl 0 rfl
                    have z274 := H186.out.cell 3 rfl 1 rfl
                    have z275 := H186.out.cell 3 rfl 2 rfl
                    have z276 := H186.out.cell 3 rfl 3 rfl
                    go_wp2_with fail
                    clear z273 z274 z275 z276
                    go_roundw
                    case rel => exact ⟨y + 1, k + 1, ln, g, cp, by omega, by omega, by omega, by go_num, by rw [HLN.out, Hhjn.out, Nat.add_mul, Nat.one_mul], by rw [show gridL F wd (k + 1) 0 = gridL F wd k j by rw [← gridL_row, Hhjn.out]]; exact H186.out⟩
                    case measure => first | (simp [intOf]; omega) | (simp [intOf]; done)
              · skip
                have hkn' : ¬ ((y : Int) < r3) := by omega
                have Hhkn := hid (show k = ht by omega)
                have HKE := hid (show k = ht by omega)
                have z277 := H180.out.cell 3 rfl 0 rfl
                have z278 := H180.out.cell 3 rfl 1 rfl
                have z279 := H180.out.cell 3 rfl 2 rfl
                have z280 := H180.out.cell 3 rfl 3 rfl
                have z281 := H180.out.cell 1 rfl 0 rfl
                have z282 := H180.out.cell 1 rfl 1 rfl
                have z283 := H180.out.cell 1 rfl 2 rfl
                have z284 := H180.out.cell 1 rfl 3 rfl
                have z285 := H180.out.cell 2 rfl 0 rfl
                have z286 := H180.out.free 2 rfl 0
                have z287 := H180.out.cell 2 rfl 1 rfl
                have z288 := H180.out.free 2 rfl 1
                have z289 := H180.out.cell 2 rfl 2 rfl
                have z290 := H180.out.free 2 rfl 2
                have z291 := H180.out.cell 2 rfl 3 rfl
                have z292 := H180.out.free 2 rfl 3
                go_wp2_with fail
                clear z277 z278 z279 z280 z281 z282 z283 z284 z285 z286 z287 z288 z289 z290 z291 z292
                have H293 := hid (show St B W [.own (.slice (some ⟨g, 0, none⟩) ln cp) (gridL F wd k 0), .cells D156 #[.int .i64 (r2 - r0), .int .i64 (r3 - r1), .int .i64 out, .slice (some ⟨g, 0, none⟩) ln cp] 35, .cells (B + 1 + 1 + 1) #[.int .i64 (r2 - r0), .int .i64 (r3 - r1), .int .i64 out, .slice (some ⟨g, 0, none⟩) ln cp] 35, .cells (B + 1 + 1) #[.int .i64 r0, .int .i64 r1, .int .i64 r2, .int .i64 r3] 33, .cells (B + 1) #[.int .i64 p, .int .i64 f] 38, .cells B #[.int .i64 w, .int .i64 h, .int .i64 mx, .slice a n c] 35] [] ((((u179.setCell ⟨B + 1 + 1 + 1, 0, none⟩ (.int .i64 (r2 - r0))).setCell ⟨B + 1 + 1 + 1, 1, none⟩ (.int .i64 (r3 - r1))).setCell ⟨B + 1 + 1 + 1, 2, none⟩ (.int .i64 out)).setCell ⟨B + 1 + 1 + 1, 3, none⟩ (.slice (some ⟨g, 0, none⟩) ln cp)) from (H180.out.set4 2 rfl (.int .i64 (r2 - r0)) (.int .i64 (r3 - r1)) (.int .i64 out) (.slice (some ⟨g, 0, none⟩) ln cp)))
                have HRES := hid (show cvL w h zs p f KW KH ws shift out r0 r1 r2 r3 = gridL F wd k 0 from by unfold cvL rG; rw [HFF.out, HWD.out, HHT.out, Int.toNat_natCast, Int.toNat_natCast, ← HKE.out])
                have q294 := H293.out.cell 2 rfl 0 rfl
                have q295 := H293.out.cell 2 rfl 1 rfl
                have q296 := H293.out.cell 2 rfl 2 rfl
                have q297 := H293.out.cell 2 rfl 3 rfl
                refine bodyPost_ret (v := .tuple #[.agg #[.int .i64 (r2 - r0), .int .i64 (r3 - r1), .int .i64 out, .slice (some ⟨g, 0, none⟩) ln cp], .int .i64 0]) ?_ rfl (TPost.yes HTC.out (by rw [hB, HRES.out]; exact H293.out.own 0 rfl) (by first | exact H293.out.below | exact H293.out.below'))
                simp [results, Try.results20, go_sem, q294, q295, q296, q297]
          | false =>
            have z298 := H154.out.cell 0 rfl 0 rfl
            have z299 := H154.out.free 0 rfl 0
            have z300 := H154.out.cell 0 rfl 1 rfl
            have z301 := H154.out.free 0 rfl 1
            have z302 := H154.out.cell 0 rfl 2 rfl
            have z303 := H154.out.free 0 rfl 2
            have z304 := H154.out.cell 0 rfl 3 rfl
            have z305 := H154.out.free 0 rfl 3
            go_wp2_with fail
            clear z298 z299 z300 z301 z302 z303 z304 z305
            have H306 := hid (show St B W [.cells (B + 1 + 1 + 1) #[.int .i64 0, .int .i64 0, .int .i64 0, .slice none 0 0] 35, .cells (B + 1 + 1) #[.int .i64 r0, .int .i64 r1, .int .i64 r2, .int .i64 r3] 33, .cells (B + 1) #[.int .i64 p, .int .i64 f] 38, .cells B #[.int .i64 w, .int .i64 h, .int .i64 mx, .slice a n c] 35] [] ((((w153.setCell ⟨B + 1 + 1 + 1, 0, none⟩ (.int .i64 0)).setCell ⟨B + 1 + 1 + 1, 1, none⟩ (.int .i64 0)).setCell ⟨B + 1 + 1 + 1, 2, none⟩ (.int .i64 0)).setCell ⟨B + 1 + 1 + 1, 3, none⟩ (.slice none 0 0)) from (H154.out.set4 0 rfl (.int .i64 0) (.int .i64 0) (.int .i64 0) (.slice none 0 0)))
            have q307 := H306.out.cell 0 rfl 0 rfl
            have q308 := H306.out.cell 0 rfl 1 rfl
            have q309 := H306.out.cell 0 rfl 2 rfl
            have q310 := H306.out.cell 0 rfl 3 rfl
            refine bodyPost_ret (v := .tuple #[.agg #[.int .i64 0, .int .i64 0, .int .i64 0, .slice none 0 0], .int .i64 8]) ?_ rfl (TPost.no (by unfold cvTC; rw [if_neg (fun hc => hc ⟨HNb107.out, HNb116.out⟩), if_neg (by rw [HNk123.out]; have := c124h.out; omega), if_pos (by unfold rIs; rw [HNb155.out]; simp)]) (by omega) (by first | exact H306.out.below | exact H306.out.below'))
            simp [results, Try.results20, go_sem, q307, q308, q309, q310]
      · have c124a : ((k123 : Int) == (0)) = false := by simpa using c124
        have c124b : ((k123 : Int) != (0)) = true := by simpa using c124
        have c124h := hid c124
        clear c124
        have z311 := H122.out.cell 0 rfl 0 rfl
        have z312 := H122.out.free 0 rfl 0
        have z313 := H122.out.cell 0 rfl 1 rfl
        have z314 := H122.out.free 0 rfl 1
        have z315 := H122.out.cell 0 rfl 2 rfl
        have z316 := H122.out.free 0 rfl 2
        have z317 := H122.out.cell 0 rfl 3 rfl
        have z318 := H122.out.free 0 rfl 3
        go_wp2_with fail
        clear z311 z312 z313 z314 z315 z316 z317 z318
        have H319 := hid (show St B W [.cells (B + 1 + 1 + 1) #[.int .i64 0, .int .i64 0, .int .i64 0, .slice none 0 0] 35, .cells (B + 1 + 1) #[.int .i64 r0, .int .i64 r1, .int .i64 r2, .int .i64 r3] 33, .cells (B + 1) #[.int .i64 p, .int .i64 f] 38, .cells B #[.int .i64 w, .int .i64 h, .int .i64 mx, .slice a n c] 35] [] ((((w121.setCell ⟨B + 1 + 1 + 1, 0, none⟩ (.int .i64 0)).setCell ⟨B + 1 + 1 + 1, 1, none⟩ (.int .i64 0)).setCell ⟨B + 1 + 1 + 1, 2, none⟩ (.int .i64 0)).setCell ⟨B + 1 + 1 + 1, 3, none⟩ (.slice none 0 0)) from (H122.out.set4 0 rfl (.int .i64 0) (.int .i64 0) (.int .i64 0) (.slice none 0 0)))
        have q320 := H319.out.cell 0 rfl 0 rfl
        have q321 := H319.out.cell 0 rfl 1 rfl
        have q322 := H319.out.cell 0 rfl 2 rfl
        have q323 := H319.out.cell 0 rfl 3 rfl
        refine bodyPost_ret (v := .tuple #[.agg #[.int .i64 0, .int .i64 0, .int .i64 0, .slice none 0 0], .int .i64 k123]) ?_ rfl (TPost.no (by unfold cvTC; rw [if_neg (fun hc => hc ⟨HNb107.out, HNb116.out⟩), if_pos (by rw [HNk123.out]; exact c124h.out), HNk123.out]) c124h.out (by first | exact H319.out.below | exact H319.out.below'))
        simp [results, Try.results20, go_sem, q320, q321, q322, q323]
    | false =>
      have z324 := H115.out.cell 0 rfl 0 rfl
      have z325 := H115.out.free 0 rfl 0
      have z326 := H115.out.cell 0 rfl 1 rfl
      have z327 := H115.out.free 0 rfl 1
      have z328 := H115.out.cell 0 rfl 2 rfl
      have z329 := H115.out.free 0 rfl 2
      have z330 := H115.out.cell 0 rfl 3 rfl
      have z331 := H115.out.free 0 rfl 3
      go_wp2_with fail
      clear z324 z325 z326 z327 z328 z329 z330 z331
      have H332 := hid (show St B W [.cells (B + 1 + 1 + 1) #[.int .i64 0, .int .i64 0, .int .i64 0, .slice none 0 0] 35, .cells (B + 1 + 1) #[.int .i64 r0, .int .i64 r1, .int .i64 r2, .int .i64 r3] 33, .cells (B + 1) #[.int .i64 p, .int .i64 f] 38, .cells B #[.int .i64 w, .int .i64 h, .int .i64 mx, .slice a n c] 35] [] ((((w114.setCell ⟨B + 1 + 1 + 1, 0, none⟩ (.int .i64 0)).setCell ⟨B + 1 + 1 + 1, 1, none⟩ (.int .i64 0)).setCell ⟨B + 1 + 1 + 1, 2, none⟩ (.int .i64 0)).setCell ⟨B + 1 + 1 + 1, 3, none⟩ (.slice none 0 0)) from (H115.out.set4 0 rfl (.int .i64 0) (.int .i64 0) (.int .i64 0) (.slice none 0 0)))
      have q333 := H332.out.cell 0 rfl 0 rfl
      have q334 := H332.out.cell 0 rfl 1 rfl
      have q335 := H332.out.cell 0 rfl 2 rfl
      have q336 := H332.out.cell 0 rfl 3 rfl
      refine bodyPost_ret (v := .tuple #[.agg #[.int .i64 0, .int .i64 0, .int .i64 0, .slice none 0 0], .int .i64 1]) ?_ rfl (TPost.no (by unfold cvTC; rw [if_pos (by intro hc; rw [HNb116.out] at hc; simp at hc)]) (by omega) (by first | exact H332.out.below | exact H332.out.below'))
      simp [results, Try.results20, go_sem, q333, q334, q335, q336]
  | false =>
    have z337 := H106.out.cell 0 rfl 0 rfl
    have z338 := H106.out.free 0 rfl 0
    have z339 := H106.out.cell 0 rfl 1 rfl
    have z340 := H106.out.free 0 rfl 1
    have z341 := H106.out.cell 0 rfl 2 rfl
    have z342 := H106.out.free 0 rfl 2
    have z343 := H106.out.cell 0 rfl 3 rfl
    have z344 := H106.out.free 0 rfl 3
    go_wp2_with fail
    clear z337 z338 z339 z340 z341 z342 z343 z344
    have H345 := hid (show St B W [.cells (B + 1 + 1 + 1) #[.int .i64 0, .int .i64 0, .int .i64 0, .slice none 0 0] 35, .cells (B + 1 + 1) #[.int .i64 r0, .int .i64 r1, .int .i64 r2, .int .i64 r3] 33, .cells (B + 1) #[.int .i64 p, .int .i64 f] 38, .cells B #[.int .i64 w, .int .i64 h, .int .i64 mx, .slice a n c] 35] [] ((((w105.setCell ⟨B + 1 + 1 + 1, 0, none⟩ (.int .i64 0)).setCell ⟨B + 1 + 1 + 1, 1, none⟩ (.int .i64 0)).setCell ⟨B + 1 + 1 + 1, 2, none⟩ (.int .i64 0)).setCell ⟨B + 1 + 1 + 1, 3, none⟩ (.slice none 0 0)) from (H106.out.set4 0 rfl (.int .i64 0) (.int .i64 0) (.int .i64 0) (.slice none 0 0)))
    have q346 := H345.out.cell 0 rfl 0 rfl
    have q347 := H345.out.cell 0 rfl 1 rfl
    have q348 := H345.out.cell 0 rfl 2 rfl
    have q349 := H345.out.cell 0 rfl 3 rfl
    refine bodyPost_ret (v := .tuple #[.agg #[.int .i64 0, .int .i64 0, .int .i64 0, .slice none 0 0], .int .i64 1]) ?_ rfl (TPost.no (by unfold cvTC; rw [if_pos (by intro hc; rw [HNb107.out] at hc; simp at hc)]) (by omega) (by first | exact H345.out.below | exact H345.out.below'))
    simp [results, Try.results20, go_sem, q346, q347, q348, q349]
end Go.Proofs.Ytocikgdkigcjbaa
