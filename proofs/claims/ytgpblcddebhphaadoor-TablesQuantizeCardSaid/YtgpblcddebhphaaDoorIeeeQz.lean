/-
  Contracts: quantized lists, in the program and in the reference.
-/
import Derived.Test.YtgpblcddebhphaaDoorIeeeQ
namespace Go.Proofs.YtgpblcddebhphaaDoor
open Go.RowKit
attribute [local go_sem ↓] Go.wp_at_zero Go.wp_at_succ
set_option linter.unusedVariables false
set_option linter.unusedSimpArgs false
theorem pow_pos'' (n : Nat) : 0 < 2 ^ n := two_pos n

set_option maxRecDepth 100000 in
set_option maxHeartbeats 6400000 in
theorem quantize_any (a : Option Addr) (n c : Nat) (us : List Int) (s : Int) (W : World) (hs : Slu W a n c us) (hu : U64s us) (hT : Tab W) : Calls Tryd.prog 33 #[.slice a n c, .int .i64 s] W (QPost (nats us) s W) := by
  have HL := hid hs.len
  have nmx : (n : Int) ≤ 9223372036854775807 := by have := hs.nc; have := hs.cap; omega
  have HN := hid (nats_len us)
  obtain ⟨L, hL⟩ : ∃ L, nats us = L := ⟨_, rfl⟩
  have HG := hid (show ∀ j, L.getD j 0 = (us.getD j 0).toNat from fun j => by rw [← hL]; exact nats_get us j)
  have HU := hid hu
  rw [hL] at HN ⊢
  have HNL := hid (show L.length = n from HN.out.trans HL.out)
  clear hL hu HN
  by_cases c1 : s < 0 ∨ 24 < s
  · have hq := qc2 (l := L) c1
    have HQ := hid hq
    rcases c1 with c1 | c1
    all_goals
      go_enter Tryd.func33, Tryd.ntmps33
      go_wp2
      go_ret2
      exact q_no HQ.out (by decide) (Below.refl _ _)
  obtain ⟨s1, s2⟩ : 0 ≤ s ∧ s ≤ 24 := by omega
  by_cases c2 : n = 0 ∨ 8 < n
  · have HQ := hid (qc5 (l := L) c1 (by rw [HNL.out]; exact c2))
    clear c1
    rcases c2 with c2 | c2
    all_goals
      try subst c2
      go_enter Tryd.func33, Tryd.ntmps33
      go_wp2
      go_ret2
      exact q_no HQ.out (by decide) (Below.refl _ _)
  obtain ⟨n1, n2⟩ : 1 ≤ n ∧ n ≤ 8 := by omega
  have C1 := hid c1
  have C2 := hid (show ¬ (L.length = 0 ∨ 8 < L.length) by rw [HNL.out]; exact c2)
  clear c1 c2
  have n0 : ((n : Int) == 0) = false := by simp; omega
  obtain ⟨pb, po, hpa⟩ := row_at hs.row (by omega)
  subst hpa
  have HS := hid hs
  obtain ⟨B, hB⟩ : ∃ B, W.heap.size = B := ⟨_, rfl⟩
  have HI0 := hid (St.init hB)
  have HT := hid hT
  have HB0 := hid (show 0 < B from by rw [← hB]; exact hT.pos)
  clear hT
  have hp0 := pow_pos'' s.toNat
  have hp1 : (2 : Nat) ^ s.toNat ≤ 2 ^ 24 := Nat.pow_le_pow_right (by decide) (by omega)
  have hpc : ((2 ^ s.toNat : Nat) : Int) = (2 : Int) ^ s.toNat := by simp
  obtain ⟨P, hP⟩ : ∃ P, (2 : Int) ^ s.toNat = P := ⟨_, rfl⟩
  obtain ⟨P1, P2⟩ : 1 ≤ P ∧ P ≤ 16777216 := by omega
  have HP := hid hP
  have hw : IntKind.i64.wrap P = P := IntWalk.i64_in _ (by omega)
  clear hs hp0 hp1 hpc
  go_enter Tryd.func33, Tryd.ntmps33
  obtain ⟨DT, hDT⟩ : ∃ L, W.heap.size = L := ⟨_, rfl⟩
  have hBDT : B ≤ DT := by have := HI0.out.size; omega
  go_upto_region 6 with (at_make; refine make_int rfl _ _ rfl DT _ _ n rfl rfl (by rfl) (by rfl) (by omega) (by omega) ?_; intro w1 ho hb; rw [hDT] at ho ⊢; have H2 := hid (HI0.out.made hDT ho hb); clear ho hb hDT hBDT)
  go_wp2_with fail
  go_loopw [34, 7, 8] (fun i x y wr => ∃ (j g : Nat) (co : Int) (ol : List Int), j ≤ n ∧ QTo L s ol j ∧ qErr L s j = 0 ∧ co = P - qSum L s j ∧ g = qBest L s j ∧ i = .int .i64 j ∧ x = .int .i64 co ∧ y = .int .i64 g ∧ St B W [.own (.slice (some ⟨DT, 0, none⟩) n n) ol] [] wr) (fun i _ _ _ => n - (intOf i).toNat)
  case atStart => exact ⟨0, 0, _, _, by omega, QTo.zero _ _ _ HNL.out.symm, rfl, (show P = P - 0 by omega), rfl, rfl, rfl, rfl, H2.out⟩
  case round =>
    obtain ⟨j, g, co, ol, hj, hqt, hqe, hco, hgg, rfl, rfl, rfl, hst⟩ := hrel
    obtain ⟨u3, rfl⟩ : ∃ u3 : World, u3 = wr := ⟨_, rfl⟩
    have H4 := hid hst
    clear hst
    have hcb : -16777216 - 262136 ≤ co ∧ co ≤ 16777216 + 262136 := by have := qSum_bd L s j; omega
    obtain ⟨cb1, cb2⟩ := hcb
    have HQT := hid hqt
    have HQE := hid hqe
    have HCO := hid hco
    have HGG := hid hgg
    have hgj : g ≤ j := by have := qBest_lt L s j; omega
    have hgn : g < n := by have := qBest_lt L s j; omega
    clear hqt hqe hco hgg
    by_cases hjn : j < n
    · skip
      have hjn' : (j : Int) < n := by omega
      have cz := row_cell (H4.out.oldU HS.out).row (j := j) hjn
      obtain ⟨z, hz⟩ : ∃ z, us.getD j 0 = z := ⟨_, rfl⟩
      obtain ⟨z1, z2⟩ : 0 ≤ z ∧ z < 18446744073709551616 := by rw [← hz]; exact HU.out j
      rw [hz] at cz
      have HGZ := hid (show L.getD j 0 = z.toNat from by rw [HG.out j, hz])
      clear hz
      go_wp2_with fail
      refine (scale_any z s (by omega) _ (HT.out.below (by first | exact H4.out.below' | exact H4.out.below) HB0.out)).mono ?_
      rintro e w5 ⟨rfl, hb⟩
      have H6 := hid (H4.out.call hb)
      clear hb
      rw [← HGZ.out]
      obtain ⟨v7, hv7⟩ : ∃ xx', scV (L.getD j 0) s = xx' := ⟨_, rfl⟩
      rw [hv7]
      have HNv7 := hid hv7
      clear hv7
      obtain ⟨c8, hc8⟩ : ∃ xx', scC (L.getD j 0) s = xx' := ⟨_, rfl⟩
      rw [hc8]
      have HNc8 := hid hc8
      clear hc8
      by_cases c9 : (c8 : Int) = 0
      · obtain ⟨c9c, c9d⟩ : (c8 : Int) ≤ 0 ∧ (0 : Int) ≤ c8 := by omega
        have c9a : ((c8 : Int) == (0)) = true := by simpa using c9
        have c9b : ((c8 : Int) != (0)) = false := by simpa using c9
        have c9h := hid c9
        clear c9
        go_upto_region 13 with fail
        have HSC := hid (show scC (L.getD j 0) s = 0 from by rw [HNc8.out]; omega)
        obtain ⟨vb1, vb2⟩ : -32767 ≤ v7 ∧ v7 ≤ 32767 := by rw [← HNv7.out]; exact scV_bd _ _
        have HQN := hid (show QTo L s (ol.set j v7) (j + 1) from by have := HQT.out.next (j := j) (by rw [HNL.out]; exact hjn); rwa [HNv7.out] at this)
        have HEN := hid (qErr_next HQE.out HSC.out)
        obtain ⟨s1, s2⟩ := H6.out.get 0 rfl (j := j) (by rw [HQT.out.len, HNL.out]; exact hjn)
        go_upto_region 14 with fail
        have H10 := hid (show St B W [.own (.slice (some ⟨DT, 0, none⟩) n n) (ol.set j v7)] [] (w5.setCell ⟨DT, j, none⟩ (.int .i64 v7)) from (H6.out.store 0 rfl j v7))
        first | refine gen_code H10.out ?_ | refine gen_list H10.out ?_ | refine gen_calls H10.out ?_
        intro w11 hG
        clear H10
        have H10 := hid hG
        clear hG
        go_upto_region 15 with fail
        clear s1 s2
        obtain ⟨x, hx⟩ : ∃ x, scV (L.getD g 0) s = x := ⟨_, rfl⟩
        have s3 := (H10.out.get 0 rfl (j := g) (by rw [HQN.out.len, HNL.out]; exact hgn)).1
        rw [show (ol.set j v7).getD g 0 = x from by have := HQN.out.best; rw [← HGG.out] at this; rw [this, hx]] at s3
        obtain ⟨xb1, xb2⟩ : -32767 ≤ x ∧ x ≤ 32767 := by rw [← hx]; exact scV_bd _ _
        have HX := hid hx
        clear hx
        by_cases hxv : x < v7
        · skip
          have HBN := hid (show j = qBest L s (j + 1) from by simp only [qBest]; rw [← HGG.out, HX.out, HNv7.out, if_pos hxv])
          go_wp2_with fail
          go_roundw
          case rel => exact ⟨j + 1, _, _, _, by omega, HQN.out, HEN.out, (show _ = _ from by simp only [qSum]; have := HCO.out; have := HNv7.out; omega), HBN.out, by go_num, rfl, by first | rfl | go_num, H10.out⟩
          case measure => first | (simp [intOf]; omega) | (simp [intOf]; done)
        · skip
          have HBN := hid (show g = qBest L s (j + 1) from by simp only [qBest]; rw [← HGG.out, HX.out, HNv7.out, if_neg hxv])
          go_wp2_with fail
          go_roundw
          case rel => exact ⟨j + 1, _, _, _, by omega, HQN.out, HEN.out, (show _ = _ from by simp only [qSum]; have := HCO.out; have := HNv7.out; omega), HBN.out, by go_num, rfl, by first | rfl | go_num, H10.out⟩
          case measure => first | (simp [intOf]; omega) | (simp [intOf]; done)
      · have c9a : ((c8 : Int) == (0)) = false := by simpa using c9
        have c9b : ((c8 : Int) != (0)) = true := by simpa using c9
        have c9h := hid c9
        clear c9
        go_wp2_with fail
        go_ret2
        exact q_no ((qcE C1.out C2.out (by rw [qCode_err j (by rw [HNL.out]; exact hjn) HQE.out (by rw [HNc8.out]; intro hq; have := c9h.out; omega)]; exact (by rw [HNc8.out]; intro hq; have := c9h.out; omega))).trans ((qCode_err j (by rw [HNL.out]; exact hjn) HQE.out (by rw [HNc8.out]; intro hq; have := c9h.out; omega)).trans HNc8.out)) (by intro hq; have := c9h.out; omega) (by first | exact H6.out.below | exact H6.out.below')
    · skip
      have hjn' : ¬ ((j : Int) < n) := by omega
      have HJN := hid (show j = L.length from by rw [HNL.out]; omega)
      go_upto_region 18 with fail
      have HQD := hid (show qD L s = co from by unfold qD; rw [HP.out, ← HJN.out, ← HCO.out])
      by_cases c12 : (n : Int) < co
      · skip
        go_wp2_with fail
        go_ret2
        exact q_no (qc10 C1.out C2.out (by rw [← HJN.out]; exact HQE.out) (by rw [HQD.out, HNL.out]; omega)) (by decide) (by first | exact H4.out.below | exact H4.out.below')
      · skip
        by_cases c13 : (co : Int) < -n
        · skip
          go_wp2_with fail
          go_ret2
          exact q_no (qc10 C1.out C2.out (by rw [← HJN.out]; exact HQE.out) (by rw [HQD.out, HNL.out]; omega)) (by decide) (by first | exact H4.out.below | exact H4.out.below')
        · skip
          go_upto_region 20 with fail
          have HD4 := hid (show ¬ ((L.length : Int) < qD L s ∨ qD L s < -(L.length : Int)) from by rw [HQD.out, HNL.out]; omega)
          obtain ⟨x, hx⟩ : ∃ x, scV (L.getD g 0) s = x := ⟨_, rfl⟩
          obtain ⟨s3, s4⟩ := H4.out.get 0 rfl (j := g) (by rw [HQT.out.len, HNL.out]; exact hgn)
          rw [show ol.getD g 0 = x from by have := HQT.out.vals g (by omega); rw [this, hx]] at s3
          obtain ⟨xb1, xb2⟩ : -32767 ≤ x ∧ x ≤ 32767 := by rw [← hx]; exact scV_bd _ _
          obtain ⟨T, hT⟩ : ∃ T, x + co = T := ⟨_, rfl⟩
          have HTP := hid (show qTop L s = T from by unfold qTop; rw [← HJN.out, ← HGG.out, hx, HQD.out, hT])
          obtain ⟨T1, T2⟩ : -33849343 ≤ T ∧ T ≤ 33849343 := by omega
          clear hx
          go_upto_region 21 with fail
          have H14 := hid (show St B W [.own (.slice (some ⟨DT, 0, none⟩) n n) (ol.set g T)] [] (u3.setCell ⟨DT, g, none⟩ (.int .i64 T)) from (H4.out.store 0 rfl g T))
          first | refine gen_code H14.out ?_ | refine gen_list H14.out ?_ | refine gen_calls H14.out ?_
          intro w15 hG
          clear H14
          have H14 := hid hG
          clear hG
          clear s3 s4 hT
          have s5 := (H14.out.get 0 rfl (j := g) (by rw [List.length_set, HQT.out.len, HNL.out]; exact hgn)).1
          rw [show (ol.set g T).getD g 0 = T from by rw [set_get (by rw [HQT.out.len, HNL.out]; exact hgn), if_pos rfl]] at s5
          by_cases c16 : (32767 : Int) < T
          · skip
            go_wp2_with fail
            go_ret2
            exact q_no (qc3 C1.out C2.out (by rw [← HJN.out]; exact HQE.out) HD4.out (by rw [HTP.out]; omega)) (by decide) (by first | exact H14.out.below | exact H14.out.below')
          · skip
            by_cases c17 : (T : Int) < (-32767)
            · skip
              go_wp2_with fail
              go_ret2
              exact q_no (qc3 C1.out C2.out (by rw [← HJN.out]; exact HQE.out) HD4.out (by rw [HTP.out]; omega)) (by decide) (by first | exact H14.out.below | exact H14.out.below')
            · skip
              go_wp2_with fail
              go_ret2
              exact q_yes (qc0 C1.out C2.out (by rw [← HJN.out]; exact HQE.out) HD4.out (by rw [HTP.out]; omega)) (by rw [← HJN.out]; exact HQT.out) (by rw [hB, HTP.out, ← HJN.out, ← HGG.out]; exact H14.out.own 0 rfl) (by first | exact H14.out.below | exact H14.out.below')

set_option maxRecDepth 100000 in
set_option maxHeartbeats 6400000 in
theorem rquantize_any (a : Option Addr) (n c : Nat) (us : List Int) (s : Int) (W : World) (hs : Slu W a n c us) (hu : U64s us) : Calls Tryd.prog 34 #[.slice a n c, .int .i64 s] W (QPost (nats us) s W) := by
  have HL := hid hs.len
  have nmx : (n : Int) ≤ 9223372036854775807 := by have := hs.nc; have := hs.cap; omega
  have HN := hid (nats_len us)
  obtain ⟨L, hL⟩ : ∃ L, nats us = L := ⟨_, rfl⟩
  have HG := hid (show ∀ j, L.getD j 0 = (us.getD j 0).toNat from fun j => by rw [← hL]; exact nats_get us j)
  have HU := hid hu
  rw [hL] at HN ⊢
  have HNL := hid (show L.length = n from HN.out.trans HL.out)
  clear hL hu HN
  by_cases c1 : s < 0 ∨ 24 < s
  · have hq := qc2 (l := L) c1
    have HQ := hid hq
    rcases c1 with c1 | c1
    all_goals
      go_enter Tryd.func34, Tryd.ntmps34
      go_wp2
      go_ret2
      exact q_no HQ.out (by decide) (Below.refl _ _)
  obtain ⟨s1, s2⟩ : 0 ≤ s ∧ s ≤ 24 := by omega
  by_cases c2 : n = 0 ∨ 8 < n
  · have HQ := hid (qc5 (l := L) c1 (by rw [HNL.out]; exact c2))
    clear c1
    rcases c2 with c2 | c2
    all_goals
      try subst c2
      go_enter Tryd.func34, Tryd.ntmps34
      go_wp2
      go_ret2
      exact q_no HQ.out (by decide) (Below.refl _ _)
  obtain ⟨n1, n2⟩ : 1 ≤ n ∧ n ≤ 8 := by omega
  have C1 := hid c1
  have C2 := hid (show ¬ (L.length = 0 ∨ 8 < L.length) by rw [HNL.out]; exact c2)
  clear c1 c2
  have n0 : ((n : Int) == 0) = false := by simp; omega
  obtain ⟨pb, po, hpa⟩ := row_at hs.row (by omega)
  subst hpa
  have HS := hid hs
  obtain ⟨B, hB⟩ : ∃ B, W.heap.size = B := ⟨_, rfl⟩
  have HI0 := hid (St.init hB)
  have hp0 := pow_pos'' s.toNat
  have hp1 : (2 : Nat) ^ s.toNat ≤ 2 ^ 24 := Nat.pow_le_pow_right (by decide) (by omega)
  have hpc : ((2 ^ s.toNat : Nat) : Int) = (2 : Int) ^ s.toNat := by simp
  obtain ⟨P, hP⟩ : ∃ P, (2 : Int) ^ s.toNat = P := ⟨_, rfl⟩
  obtain ⟨P1, P2⟩ : 1 ≤ P ∧ P ≤ 16777216 := by omega
  have HP := hid hP
  have hw : IntKind.i64.wrap P = P := IntWalk.i64_in _ (by omega)
  clear hs hp0 hp1 hpc
  go_enter Tryd.func34, Tryd.ntmps34
  obtain ⟨DT, hDT⟩ : ∃ L, W.heap.size = L := ⟨_, rfl⟩
  have hBDT : B ≤ DT := by have := HI0.out.size; omega
  go_upto_region 6 with (at_make; refine make_int rfl _ _ rfl DT _ _ n rfl rfl (by rfl) (by rfl) (by omega) (by omega) ?_; intro w18 ho hb; rw [hDT] at ho ⊢; have H19 := hid (HI0.out.made hDT ho hb); clear ho hb hDT hBDT)
  go_wp2_with fail
  go_loopw [9, 7, 8] (fun i x y wr => ∃ (j g : Nat) (co : Int) (ol : List Int), j ≤ n ∧ QTo L s ol j ∧ qErr L s j = 0 ∧ co = qSum L s j ∧ g = qBest L s j ∧ i = .int .i64 j ∧ x = .int .i64 co ∧ y = .int .i64 g ∧ St B W [.own (.slice (some ⟨DT, 0, none⟩) n n) ol] [] wr) (fun i _ _ _ => n - (intOf i).toNat)
  case atStart => exact ⟨0, 0, _, _, by omega, QTo.zero _ _ _ HNL.out.symm, rfl, rfl, rfl, rfl, rfl, rfl, H19.out⟩
  case round =>
    obtain ⟨j, g, co, ol, hj, hqt, hqe, hco, hgg, rfl, rfl, rfl, hst⟩ := hrel
    obtain ⟨u20, rfl⟩ : ∃ u20 : World, u20 = wr := ⟨_, rfl⟩
    have H21 := hid hst
    clear hst
    have hcb : -16777216 - 262136 ≤ co ∧ co ≤ 16777216 + 262136 := by have := qSum_bd L s j; omega
    obtain ⟨cb1, cb2⟩ := hcb
    have HQT := hid hqt
    have HQE := hid hqe
    have HCO := hid hco
    have HGG := hid hgg
    have hgj : g ≤ j := by have := qBest_lt L s j; omega
    have hgn : g < n := by have := qBest_lt L s j; omega
    clear hqt hqe hco hgg
    by_cases hjn : j < n
    · skip
      have hjn' : (j : Int) < n := by omega
      have cz := row_cell (H21.out.oldU HS.out).row (j := j) hjn
      obtain ⟨z, hz⟩ : ∃ z, us.getD j 0 = z := ⟨_, rfl⟩
      obtain ⟨z1, z2⟩ : 0 ≤ z ∧ z < 18446744073709551616 := by rw [← hz]; exact HU.out j
      rw [hz] at cz
      have HGZ := hid (show L.getD j 0 = z.toNat from by rw [HG.out j, hz])
      clear hz
      go_wp2_with fail
      refine (qscale_any z s (by omega) _).mono ?_
      rintro e w22 ⟨rfl, hb⟩
      have H23 := hid (H21.out.call hb)
      clear hb
      rw [← HGZ.out]
      obtain ⟨v24, hv24⟩ : ∃ xx', scV (L.getD j 0) s = xx' := ⟨_, rfl⟩
      rw [hv24]
      have HNv24 := hid hv24
      clear hv24
      obtain ⟨c25, hc25⟩ : ∃ xx', scC (L.getD j 0) s = xx' := ⟨_, rfl⟩
      rw [hc25]
      have HNc25 := hid hc25
      clear hc25
      by_cases c26 : (c25 : Int) = 0
      · obtain ⟨c26c, c26d⟩ : (c25 : Int) ≤ 0 ∧ (0 : Int) ≤ c25 := by omega
        have c26a : ((c25 : Int) == (0)) = true := by simpa using c26
        have c26b : ((c25 : Int) != (0)) = false := by simpa using c26
        have c26h := hid c26
        clear c26
        go_upto_region 13 with fail
        have HSC := hid (show scC (L.getD j 0) s = 0 from by rw [HNc25.out]; omega)
        obtain ⟨vb1, vb2⟩ : -32767 ≤ v24 ∧ v24 ≤ 32767 := by rw [← HNv24.out]; exact scV_bd _ _
        have HQN := hid (show QTo L s (ol.set j v24) (j + 1) from by have := HQT.out.next (j := j) (by rw [HNL.out]; exact hjn); rwa [HNv24.out] at this)
        have HEN := hid (qErr_next HQE.out HSC.out)
        obtain ⟨s1, s2⟩ := H23.out.get 0 rfl (j := j) (by rw [HQT.out.len, HNL.out]; exact hjn)
        go_upto_region 14 with fail
        have H27 := hid (show St B W [.own (.slice (some ⟨DT, 0, none⟩) n n) (ol.set j v24)] [] (w22.setCell ⟨DT, j, none⟩ (.int .i64 v24)) from (H23.out.store 0 rfl j v24))
        first | refine gen_code H27.out ?_ | refine gen_list H27.out ?_ | refine gen_calls H27.out ?_
        intro w28 hG
        clear H27
        have H27 := hid hG
        clear hG
        go_upto_region 15 with fail
        clear s1 s2
        obtain ⟨x, hx⟩ : ∃ x, scV (L.getD g 0) s = x := ⟨_, rfl⟩
        have s3 := (H27.out.get 0 rfl (j := g) (by rw [HQN.out.len, HNL.out]; exact hgn)).1
        rw [show (ol.set j v24).getD g 0 = x from by have := HQN.out.best; rw [← HGG.out] at this; rw [this, hx]] at s3
        obtain ⟨xb1, xb2⟩ : -32767 ≤ x ∧ x ≤ 32767 := by rw [← hx]; exact scV_bd _ _
        have HX := hid hx
        clear hx
        by_cases hxv : x < v24
        · skip
          have HBN := hid (show j = qBest L s (j + 1) from by simp only [qBest]; rw [← HGG.out, HX.out, HNv24.out, if_pos hxv])
          go_wp2_with fail
          go_roundw
          case rel => exact ⟨j + 1, _, _, _, by omega, HQN.out, HEN.out, (show _ = _ from by simp only [qSum]; have := HCO.out; have := HNv24.out; omega), HBN.out, by go_num, rfl, by first | rfl | go_num, H27.out⟩
          case measure => first | (simp [intOf]; omega) | (simp [intOf]; done)
        · skip
          have HBN := hid (show g = qBest L s (j + 1) from by simp only [qBest]; rw [← HGG.out, HX.out, HNv24.out, if_neg hxv])
          go_wp2_with fail
          go_roundw
          case rel => exact ⟨j + 1, _, _, _, by omega, HQN.out, HEN.out, (show _ = _ from by simp only [qSum]; have := HCO.out; have := HNv24.out; omega), HBN.out, by go_num, rfl, by first | rfl | go_num, H27.out⟩
          case measure => first | (simp [intOf]; omega) | (simp [intOf]; done)
      · have c26a : ((c25 : Int) == (0)) = false := by simpa using c26
        have c26b : ((c25 : Int) != (0)) = true := by simpa using c26
        have c26h := hid c26
        clear c26
        go_wp2_with fail
        go_ret2
        exact q_no ((qcE C1.out C2.out (by rw [qCode_err j (by rw [HNL.out]; exact hjn) HQE.out (by rw [HNc25.out]; intro hq; have := c26h.out; omega)]; exact (by rw [HNc25.out]; intro hq; have := c26h.out; omega))).trans ((qCode_err j (by rw [HNL.out]; exact hjn) HQE.out (by rw [HNc25.out]; intro hq; have := c26h.out; omega)).trans HNc25.out)) (by intro hq; have := c26h.out; omega) (by first | exact H23.out.below | exact H23.out.below')
    · skip
      have hjn' : ¬ ((j : Int) < n) := by omega
      have HJN := hid (show j = L.length from by rw [HNL.out]; omega)
      go_upto_region 17 with fail
      obtain ⟨sq, hsq⟩ : ∃ sq, P - co = sq := ⟨_, rfl⟩
      have HSQ := hid hsq
      obtain ⟨q1, q2⟩ : -33816576 ≤ sq ∧ sq ≤ 33816576 := by omega
      have HQD := hid (show qD L s = sq from by unfold qD; rw [HP.out, ← HJN.out, ← HCO.out, hsq])
      by_cases c29 : (n : Int) < sq
      · skip
        go_wp2_with fail
        go_ret2
        exact q_no (qc10 C1.out C2.out (by rw [← HJN.out]; exact HQE.out) (by rw [HQD.out, HNL.out]; omega)) (by decide) (by first | exact H21.out.below | exact H21.out.below')
      · skip
        by_cases c30 : (sq : Int) < -n
        · skip
          go_wp2_with fail
          go_ret2
          exact q_no (qc10 C1.out C2.out (by rw [← HJN.out]; exact HQE.out) (by rw [HQD.out, HNL.out]; omega)) (by decide) (by first | exact H21.out.below | exact H21.out.below')
        · skip
          go_upto_region 20 with fail
          have HD4 := hid (show ¬ ((L.length : Int) < qD L s ∨ qD L s < -(L.length : Int)) from by rw [HQD.out, HNL.out]; omega)
          obtain ⟨x, hx⟩ : ∃ x, scV (L.getD g 0) s = x := ⟨_, rfl⟩
          obtain ⟨s3, s4⟩ := H21.out.get 0 rfl (j := g) (by rw [HQT.out.len, HNL.out]; exact hgn)
          rw [show ol.getD g 0 = x from by have := HQT.out.vals g (by omega); rw [this, hx]] at s3
          obtain ⟨xb1, xb2⟩ : -32767 ≤ x ∧ x ≤ 32767 := by rw [← hx]; exact scV_bd _ _
          obtain ⟨T, hT⟩ : ∃ T, x + sq = T := ⟨_, rfl⟩
          have HTP := hid (show qTop L s = T from by unfold qTop; rw [← HJN.out, ← HGG.out, hx, HQD.out, hT])
          obtain ⟨T1, T2⟩ : -33849343 ≤ T ∧ T ≤ 33849343 := by omega
          clear hx
          go_upto_region 21 with fail
          have H31 := hid (show St B W [.own (.slice (some ⟨DT, 0, none⟩) n n) (ol.set g T)] [] (u20.setCell ⟨DT, g, none⟩ (.int .i64 T)) from (H21.out.store 0 rfl g T))
          first | refine gen_code H31.out ?_ | refine gen_list H31.out ?_ | refine gen_calls H31.out ?_
          intro w32 hG
          clear H31
          have H31 := hid hG
          clear hG
          clear s3 s4 hT
          have s5 := (H31.out.get 0 rfl (j := g) (by rw [List.length_set, HQT.out.len, HNL.out]; exact hgn)).1
          rw [show (ol.set g T).getD g 0 = T from by rw [set_get (by rw [HQT.out.len, HNL.out]; exact hgn), if_pos rfl]] at s5
          by_cases c33 : (32767 : Int) < T
          · skip
            go_wp2_with fail
            go_ret2
            exact q_no (qc3 C1.out C2.out (by rw [← HJN.out]; exact HQE.out) HD4.out (by rw [HTP.out]; omega)) (by decide) (by first | exact H31.out.below | exact H31.out.below')
          · skip
            by_cases c34 : (T : Int) < (-32767)
            · skip
              go_wp2_with fail
              go_ret2
              exact q_no (qc3 C1.out C2.out (by rw [← HJN.out]; exact HQE.out) HD4.out (by rw [HTP.out]; omega)) (by decide) (by first | exact H31.out.below | exact H31.out.below')
            · skip
              go_wp2_with fail
              go_ret2
              exact q_yes (qc0 C1.out C2.out (by rw [← HJN.out]; exact HQE.out) HD4.out (by rw [HTP.out]; omega)) (by rw [← HJN.out]; exact HQT.out) (by rw [hB, HTP.out, ← HJN.out, ← HGG.out]; exact H31.out.own 0 rfl) (by first | exact H31.out.below | exact H31.out.below')
end Go.Proofs.YtgpblcddebhphaaDoor
