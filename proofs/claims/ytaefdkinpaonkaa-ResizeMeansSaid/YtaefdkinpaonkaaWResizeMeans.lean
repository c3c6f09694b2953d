/-
  The walk of ResizeMeans: a box table over the whole plane gives its rounded mean, within one unit for each of the two rounds.
-/
import Derived.Test.YtaefdkinpaonkaaSane11
import Derived.Test.YtaefdkinpaonkaaRzMean
import Derived.Test.YtaefdkinpaonkaaTab4
import Derived.Test.YtaefdkinpaonkaaTaps3
import Derived.Test.YtaefdkinpaonkaaKX
import Derived.Test.YtaefdkinpaonkaaKC
namespace Go.Proofs.Ytaefdkinpaonkaa
open Go.RowKit
theorem rG_one (F : Int → Int → Int) : rG F 0 0 1 1 = [F 0 0] := by simp [rG, gridL]
attribute [local go_sem ↓] Go.wp_at_zero Go.wp_at_succ
set_option linter.unusedVariables false
set_option linter.unusedSimpArgs false

set_option maxRecDepth 100000 in
set_option maxHeartbeats 12800000 in
theorem walk_ResizeMeans (a : Option Addr) (n c : Nat) (zs : List Int) (W : World) (hr : RowIn .i64 W a n c zs) :
  Calls Try.prog 6 #[.slice a n c] W fun e w' => e = .returned (.bool true) ∧ Below W.heap.size W w' := by
 obtain ⟨B, hB⟩ : ∃ B, W.heap.size = B := ⟨_, rfl⟩
 have HI0 := hid (St.init hB)
 have HN := hid (nearRow hr hB)
 have HR := hid hr
 clear hr
 go_enter Try.func6, Try.ntmps6
 go_wp2_with fail
 obtain ⟨K1, hK1⟩ : ∃ D, W.heap.size = D := ⟨_, rfl⟩
 refine (newB_any B _ _ _ _ _ HR.out.len (HI0.out.oldRow HR.out.row) HN.out HI0.out.size).mono ?_
 rintro e w2 ⟨rfl, ht, hb, hs⟩
 rw [hK1] at ht ⊢
 have H3 := hid (HI0.out.newTape ht hb hK1)
 clear ht hb hs hK1
 go_wp2_with fail
 refine (plane_any B K1 _ (H3.out.tapeAt 0 rfl)).mono ?_
 rintro e w5 ⟨pw4, ph4, pw41, pw42, ph41, ph42, pm4, pv4, ps4, rfl, hv, hm, ho, ht, hg⟩
 have H6 := hid (H3.out.add (H3.out.next 0 rfl ht hg) ho)
 have HVps4 := hid hv
 have HMps4 := hid hm
 obtain ⟨pv4a, pv4c, rfl, _⟩ := ho.slc
 clear hv hm ho ht hg
 obtain ⟨D7, hD7⟩ : ∃ D, w5.heap.size = D := ⟨_, rfl⟩
 go_upto_region 3 with fail
 have H8 := hid (show St B W [.cells D7 #[.int .i64 pw4, .int .i64 ph4, .int .i64 pm4, .slice pv4a ps4.length pv4c] 40, .own (.slice pv4a ps4.length pv4c) ps4, .tape K1] [] (w5.alloc (.cells #[.int .i64 pw4, .int .i64 ph4, .int .i64 pm4, .slice pv4a ps4.length pv4c] 40)) from (H6.out.alloc #[.int .i64 pw4, .int .i64 ph4, .int .i64 pm4, .slice pv4a ps4.length pv4c] 40 hD7))
 first | refine gen_code H8.out ?_ | refine gen_list H8.out ?_ | refine gen_calls H8.out ?_
 intro w9 hG
 clear H8
 have H8 := hid hG
 clear hG
 clear hD7
 obtain ⟨nw, hnw⟩ : ∃ m : Nat, pw4 = m := ⟨pw4.toNat, by omega⟩
 subst hnw
 obtain ⟨nh, hnh⟩ : ∃ m : Nat, ph4 = m := ⟨ph4.toNat, by omega⟩
 subst hnh
 obtain ⟨nw1, nw6, nh1, nh6⟩ : 1 ≤ nw ∧ nw ≤ 6 ∧ 1 ≤ nh ∧ nh ≤ 6 := by omega
 have HB1 := hid (box1 nw nw1 nw6)
 have HB2 := hid (box1 nh nh1 nh6)
 have hmb := HMps4.out
 have hpv := pValid_iff.1 HVps4.out
 obtain ⟨_, _, _, _, _, hm1, _⟩ := pOk_iff.1 hpv.1
 have hpl : (ps4.length : Int) ≤ 36 := by have h1 := hpv.2.1; have h2 : (nw : Int) * (nh : Int) ≤ 6 * 6 := Int.mul_le_mul (by omega) (by omega) (by omega) (by omega); omega
 have hpl1 : (1 : Int) ≤ ps4.length := by have h1 := hpv.2.1; have h2 : (1 : Int) * 1 ≤ (nw : Int) * (nh : Int) := Int.mul_le_mul (by omega) (by omega) (by omega) (by omega); omega
 have HPX := hid (show ∀ i, i < ps4.length → 0 ≤ ps4.getD i 0 ∧ ps4.getD i 0 ≤ pm4 from fun i hi => by have e : ps4.getD i 0 = ps4[i] := (by rw [List.getD_eq_getElem?_getD, List.getElem?_eq_getElem hi]; rfl); rw [e]; exact hpv.2.2 _ (List.getElem_mem hi))
 have hmean := rz_mean HVps4.out (by omega) nw1 nw6 nh1 nh6
 have HMEAN := hid hmean
 clear hpv hmean
 have z10 := H8.out.cell 0 rfl 0 rfl
 have z11 := H8.out.cell 0 rfl 1 rfl
 have z12 := H8.out.cell 0 rfl 2 rfl
 have z13 := H8.out.cell 0 rfl 3 rfl
 go_wp2_with fail
 clear z10 z11 z12 z13
 refine (box_any (↑nw) 1 14 _).mono ?_
 rintro e w14 ⟨v16, rfl, ho, hb⟩
 rw [HB1.out.1]
 obtain ⟨TT1, hTT1⟩ : ∃ T, bxT (↑nw) 1 14 = T := ⟨_, rfl⟩
 rw [hTT1] at ho
 have HB1' := HB1.out
 rw [hTT1] at HB1'
 obtain ⟨_, hb2, _, hb4⟩ := HB1'
 obtain ⟨wsB, hwsB⟩ : ∃ ws, (TT1.getD 0 (0, [])).2 = ws := ⟨_, rfl⟩
 rw [hwsB] at hb2 hb4
 clear hwsB
 have hTT1l : TT1.length = 1 := by rw [hb2]; rfl
 have HONE1 := hid (show ∀ i, i < TT1.length → tvOne (TT1.getD i (0, [])) = 0 from fun i hi => by rw [hTT1l] at hi; obtain rfl : i = 0 := (by omega); rw [hb2]; exact hb4)
 have HLT1 := hid hTT1l
 have HNT1 := hid hTT1
 obtain ⟨tp17, R18, ta21, tc22, rfl, htd, htq, hmo, hst⟩ := H8.out.addT' hb ho
 rw [hTT1l] at hst ⊢
 have HQ19 := hid htq
 have HD20 := hid htd
 have H15 := hid hst
 clear htd htq hmo hst ho hb hTT1l hTT1 hb2 hb4
 have z23 := H15.out.cell 1 rfl 0 rfl
 have z24 := H15.out.cell 1 rfl 1 rfl
 have z25 := H15.out.cell 1 rfl 2 rfl
 have z26 := H15.out.cell 1 rfl 3 rfl
 go_wp2_with fail
 clear z23 z24 z25 z26
 refine (box_any (↑nh) 1 14 _).mono ?_
 rintro e w27 ⟨v29, rfl, ho, hb⟩
 rw [HB2.out.1]
 obtain ⟨TT2, hTT2⟩ : ∃ T, bxT (↑nh) 1 14 = T := ⟨_, rfl⟩
 rw [hTT2] at ho
 have HB2' := HB2.out
 rw [hTT2] at HB2'
 obtain ⟨_, hb2, _, hb4⟩ := HB2'
 obtain ⟨wsB, hwsB⟩ : ∃ ws, (TT2.getD 0 (0, [])).2 = ws := ⟨_, rfl⟩
 rw [hwsB] at hb2 hb4
 clear hwsB
 have hTT2l : TT2.length = 1 := by rw [hb2]; rfl
 have HONE2 := hid (show ∀ i, i < TT2.length → tvOne (TT2.getD i (0, [])) = 0 from fun i hi => by rw [hTT2l] at hi; obtain rfl : i = 0 := (by omega); rw [hb2]; exact hb4)
 have HLT2 := hid hTT2l
 have HNT2 := hid hTT2
 obtain ⟨tp30, R31, ta34, tc35, rfl, htd, htq, hmo, hst⟩ := H15.out.addT' hb ho
 rw [hTT2l] at hst ⊢
 have HQ32 := hid htq
 have HD33 := hid htd
 have H28 := hid hst
 have HQ36 := hid (hmo _ HQ19.out)
 clear htd htq hmo hst ho hb hTT2l hTT2 hb2 hb4
 have z37 := H28.out.cell 2 rfl 0 rfl
 have z38 := H28.out.cell 2 rfl 1 rfl
 have z39 := H28.out.cell 2 rfl 2 rfl
 have z40 := H28.out.cell 2 rfl 3 rfl
 go_wp2_with fail
 clear z37 z38 z39 z40
 have hck : rzCode (↑nw) (↑nh) pm4 TT1 TT2 14 14 pm4 = 0 := rz_ok HONE1.out HONE2.out (by have := HLT1.out; omega) (by have := HLT2.out; omega) (by omega) (by omega) (by omega) (by omega) (by omega) (by omega)
 have hct := rzT_ok (p := 0) (f := 0) HVps4.out (show bValid 0 0 pm4 = true by unfold bValid; simp) hck (r0 := 0) (r1 := 0) (r2 := 1) (r3 := 1) (by have h1 := HLT1.out; have h2 := HLT2.out; omega)
 refine (rztile_any _ _ _ _ _ _ ps4 _ _ _ _ _ TT1 _ _ _ TT2 _ _ _ _ _ _ _ _ (H28.out.slc 3 rfl) ((by have ht := H28.out.taps 1 rfl HQ36.out; rw [HD20.out] at ht; exact ht)) ((by have ht := H28.out.taps 0 rfl HQ32.out; rw [HD33.out] at ht; exact ht))).mono ?_
 rintro e w41 ⟨v42, rfl, ho, hb⟩
 rw [hct] at ho ⊢
 simp only [tI, tL, if_pos] at ho ⊢
 clear hct hck
 rw [show rzL (↑nw) (↑nh) ps4 0 0 TT1 TT2 14 14 pm4 0 0 1 1 = [rzP (↑nw) (↑nh) ps4 0 0 TT1 TT2 14 14 pm4 0 0] from rG_one _] at ho
 have HMX := HMEAN.out
 rw [HNT1.out, HNT2.out] at HMX
 obtain ⟨X, hX⟩ : ∃ X, rzP (↑nw) (↑nh) ps4 0 0 TT1 TT2 14 14 pm4 0 0 = X := ⟨_, rfl⟩
 obtain ⟨X1, X2⟩ : 0 ≤ X ∧ X ≤ pm4 := by rw [← hX]; exact clV_bd (by omega)
 rw [hX] at ho HMX
 have HME := hid HMX
 clear HMX hX
 rw [Int.sub_zero]
 have H43 := hid (H28.out.grow hb ho)
 obtain ⟨v42g, v42c, rfl⟩ := ho.pos (by simp)
 clear ho hb
 obtain ⟨D44, hD44⟩ : ∃ D, w41.heap.size = D := ⟨_, rfl⟩
 go_upto_region 6 with fail
 have H45 := hid (show St B W [.cells D44 #[.int .i64 1, .int .i64 1, .int .i64 pm4, .slice (some ⟨v42g, 0, none⟩) 1 v42c] 40, .own (.slice (some ⟨v42g, 0, none⟩) 1 v42c) ([X]), .arr (32) 2 (.slice ta34 1 tc35) 1 (tapV tp30), .arr (32) 2 (.slice ta21 1 tc22) 1 (tapV tp17), .cells D7 #[.int .i64 ↑nw, .int .i64 ↑nh, .int .i64 pm4, .slice pv4a ps4.length pv4c] 40, .own (.slice pv4a ps4.length pv4c) ps4, .tape K1] R31 (w41.alloc (.cells #[.int .i64 1, .int .i64 1, .int .i64 pm4, .slice (some ⟨v42g, 0, none⟩) 1 v42c] 40)) from (H43.out.alloc #[.int .i64 1, .int .i64 1, .int .i64 pm4, .slice (some ⟨v42g, 0, none⟩) 1 v42c] 40 hD44))
 first | refine gen_code H45.out ?_ | refine gen_list H45.out ?_ | refine gen_calls H45.out ?_
 intro w46 hG
 clear H45
 have H45 := hid hG
 clear hG
 clear hD44
 have z47 := H45.out.cell 0 rfl 0 rfl
 have z48 := H45.out.cell 0 rfl 1 rfl
 have z49 := H45.out.cell 0 rfl 2 rfl
 have z50 := H45.out.cell 0 rfl 3 rfl
 go_wp2_with fail
 clear z47 z48 z49 z50
 go_loopw [12, 11] (fun i s wr => ∃ j : Nat, j ≤ ps4.length ∧ i = .int .i64 j ∧ s = .int .i64 (sumN (fun i => ps4.getD i 0) j) ∧ St B W [.cells D44 #[.int .i64 1, .int .i64 1, .int .i64 pm4, .slice (some ⟨v42g, 0, none⟩) 1 v42c] 40, .own (.slice (some ⟨v42g, 0, none⟩) 1 v42c) ([X]), .arr (32) 2 (.slice ta34 1 tc35) 1 (tapV tp30), .arr (32) 2 (.slice ta21 1 tc22) 1 (tapV tp17), .cells D7 #[.int .i64 ↑nw, .int .i64 ↑nh, .int .i64 pm4, .slice pv4a ps4.length pv4c] 40, .own (.slice pv4a ps4.length pv4c) ps4, .tape K1] R31 wr) (fun i s _ => ps4.length - (intOf i).toNat)
 case atStart => exact ⟨0, by omega, rfl, rfl, H45.out⟩
 case round =>
  obtain ⟨j, hj, rfl, rfl, hst⟩ := hrel
  obtain ⟨u51, rfl⟩ : ∃ u51 : World, u51 = wr := ⟨_, rfl⟩
  have H52 := hid hst
  clear hst
  obtain ⟨S2a, S2b⟩ : 0 ≤ sumN (fun i => ps4.getD i 0) j ∧ sumN (fun i => ps4.getD i 0) j ≤ (j : Int) * pm4 := sumN_bd (fun i hi => HPX.out i (by omega))
  have S2c : (j : Int) * pm4 ≤ 36 * 65535 := Int.mul_le_mul (by omega) (by omega) (by omega) (by omega)
  obtain ⟨S2, hS2⟩ : ∃ xx', sumN (fun i => ps4.getD i 0) j = xx' := ⟨_, rfl⟩
  rw [hS2] at S2a S2b ⊢
  have HS2 := hid hS2
  obtain ⟨S2d, S2e⟩ : 0 ≤ S2 ∧ S2 ≤ 2359260 := by omega
  clear hS2 S2b S2c S2a
  by_cases hjn : j < ps4.length
  ·skip
   have hjn' : (j : Int) < ps4.length := by omega
   obtain ⟨gp, gpc, hgp⟩ := (H52.out.own 5 rfl).pos (by omega)
   injection hgp with hg1 hg2 hg3
   subst hg1
   clear hg2 hg3
   have cz := (H52.out.get 5 rfl (j := j) hjn).1
   obtain ⟨pz, hpz⟩ : ∃ xx', ps4.getD j 0 = xx' := ⟨_, rfl⟩
   rw [hpz] at cz
   have HPZ := hid hpz
   obtain ⟨pz1, pz2⟩ : 0 ≤ pz ∧ pz ≤ pm4 := by rw [← hpz]; exact HPX.out j hjn
   clear hpz
   have z53 := H52.out.cell 4 rfl 0 rfl
   have z54 := H52.out.cell 4 rfl 1 rfl
   have z55 := H52.out.cell 4 rfl 2 rfl
   have z56 := H52.out.cell 4 rfl 3 rfl
   go_wp2_with fail
   clear z53 z54 z55 z56
   go_roundw
   case rel => exact ⟨j + 1, by omega, by go_num, by rw [show sumN (fun i => ps4.getD i 0) (j + 1) = S2 + pz from by rw [← HS2.out, ← HPZ.out]; rfl], H52.out⟩
   case measure => first | (simp [intOf]; omega) | (simp [intOf]; done)
  ·skip
   have hjn' : ¬ ((j : Int) < ps4.length) := by omega
   have HJN := hid (show j = ps4.length by omega)
   have z57 := H52.out.cell 4 rfl 0 rfl
   have z58 := H52.out.cell 4 rfl 1 rfl
   have z59 := H52.out.cell 4 rfl 2 rfl
   have z60 := H52.out.cell 4 rfl 3 rfl
   go_upto_region 13 with fail
   clear z57 z58 z59 z60
   have hme := HME.out
   rw [show sumN (fun i => ps4.getD i 0) ps4.length = S2 from by rw [← HS2.out, HJN.out]] at hme
   have xl1 : 0 ≤ X * (ps4.length : Int) := Int.mul_nonneg (by omega) (by omega)
   have xl2 : X * (ps4.length : Int) ≤ 65535 * 36 := Int.mul_le_mul (by omega) (by omega) (by omega) (by omega)
   obtain ⟨XL, hXL⟩ : ∃ z, X * (ps4.length : Int) = z := ⟨_, rfl⟩
   rw [hXL] at hme xl1 xl2
   obtain ⟨QQ, hQQ⟩ : ∃ z, pm4 / 2000 = z := ⟨_, rfl⟩
   have qq1 : 0 ≤ QQ ∧ QQ ≤ 40 := by omega
   have hQT : Int.tdiv pm4 2000 = QQ := by rw [Int.tdiv_eq_ediv_of_nonneg (by omega)]; exact hQQ
   rw [hQQ] at hme
   have rr1 : (2 + QQ) * (ps4.length : Int) ≤ 42 * 36 := Int.mul_le_mul (by omega) (by omega) (by omega) (by omega)
   have rr0 : 0 ≤ (2 + QQ) * (ps4.length : Int) := Int.mul_nonneg (by omega) (by omega)
   obtain ⟨RR, hRR⟩ : ∃ z, (2 + QQ) * (ps4.length : Int) = z := ⟨_, rfl⟩
   rw [hRR] at hme rr1 rr0
   have HQT := hid hQT
   have HRR := hid hRR
   clear hQQ hQT hRR
   obtain ⟨DD, hDD⟩ : ∃ z, XL - S2 = z := ⟨_, rfl⟩
   rw [hDD] at hme
   obtain ⟨me1, me2⟩ := hme
   have dd1 : -2359260 ≤ DD ∧ DD ≤ 2359260 := by omega
   have wxl : IntKind.i64.wrap XL = XL := IntWalk.i64_in _ (by omega)
   have wdd : IntKind.i64.wrap DD = DD := IntWalk.i64_in _ (by omega)
   have H61 := hid H52.out.drew
   refine wp_region_held_drew (S := (fun w' => w'.cell? ⟨D44, 0, none⟩ = some (.int .i64 1) ∧ w'.cell? ⟨D44, 1, none⟩ = some (.int .i64 1) ∧ w'.cell? ⟨D44, 2, none⟩ = some (.int .i64 pm4) ∧ w'.cell? ⟨D44, 3, none⟩ = some (.slice (some ⟨v42g, 0, none⟩) 1 v42c) ∧ w'.cell? ⟨D7, 0, none⟩ = some (.int .i64 ↑nw) ∧ w'.cell? ⟨D7, 1, none⟩ = some (.int .i64 ↑nh) ∧ w'.cell? ⟨D7, 2, none⟩ = some (.int .i64 pm4) ∧ w'.cell? ⟨D7, 3, none⟩ = some (.slice pv4a ps4.length pv4c) ∧ w'.cell? ⟨v42g, 0, none⟩ = some (.int .i64 X))) (by kernel_rfl) ⟨H61.out.cell 0 rfl 0 rfl, H61.out.cell 0 rfl 1 rfl, H61.out.cell 0 rfl 2 rfl, H61.out.cell 0 rfl 3 rfl, H61.out.cell 4 rfl 0 rfl, H61.out.cell 4 rfl 1 rfl, H61.out.cell 4 rfl 2 rfl, H61.out.cell 4 rfl 3 rfl, (H61.out.get 1 rfl (j := 0) (by simp)).1⟩ (fun hHeld => ?_)
   generalize u51.drew = k62 at *
   refine wpAnyH_take (i := 0) (oi := _) (v := ?_) rfl (by kernel_rfl) (by kernel_rfl) (by kernel_rfl) (fun _ _ _ h => h) (Or.inl ⟨by rfl, ?_⟩) (by assumption) ?_
   rotate_left
   focus (intro wS hSw; (try dsimp only at hSw); go_simp; (try with_reducible rfl))
   try simp only [Act.put, List.getElem_toArray, List.getElem_cons_zero, List.getElem_cons_succ, List.setIfInBounds_toArray, List.set_cons_zero, List.set_cons_succ]
   refine wpAnyH_take (i := 1) (oi := _) (v := ?_) rfl (by kernel_rfl) (by kernel_rfl) (by kernel_rfl) (fun _ _ _ h => h) (Or.inl ⟨by rfl, ?_⟩) (by assumption) ?_
   rotate_left
   focus (intro wS hSw; (try dsimp only at hSw); go_simp; (try with_reducible rfl))
   try simp only [Act.put, List.getElem_toArray, List.getElem_cons_zero, List.getElem_cons_succ, List.setIfInBounds_toArray, List.set_cons_zero, List.set_cons_succ]
   refine wpAnyH_take (i := 2) (oi := _) (v := ?_) rfl (by kernel_rfl) (by kernel_rfl) (by kernel_rfl) (fun _ _ _ h => h) (Or.inl ⟨by rfl, ?_⟩) (by assumption) ?_
   rotate_left
   focus (intro wS hSw; (try dsimp only at hSw); go_simp; (try with_reducible rfl))
   try simp only [Act.put, List.getElem_toArray, List.getElem_cons_zero, List.getElem_cons_succ, List.setIfInBounds_toArray, List.set_cons_zero, List.set_cons_succ]
   refine wpAnyH_take (i := 3) (oi := _) (v := ?_) rfl (by kernel_rfl) (by kernel_rfl) (by kernel_rfl) (fun _ _ _ h => h) (Or.inl ⟨by rfl, ?_⟩) (by assumption) ?_
   rotate_left
   focus (intro wS hSw; (try dsimp only at hSw); go_simp; (try with_reducible rfl))
   try simp only [Act.put, List.getElem_toArray, List.getElem_cons_zero, List.getElem_cons_succ, List.setIfInBounds_toArray, List.set_cons_zero, List.set_cons_succ]
   refine wpAnyH_take (i := 4) (oi := _) (v := ?_) rfl (by kernel_rfl) (by kernel_rfl) (by kernel_rfl) (fun _ _ _ h => h) (Or.inl ⟨by rfl, ?_⟩) (by assumption) ?_
   rotate_left
   focus (intro wS hSw; (try dsimp only at hSw); go_simp; (try with_reducible rfl))
   try simp only [Act.put, List.getElem_toArray, List.getElem_cons_zero, List.getElem_cons_succ, List.setIfInBounds_toArray, List.set_cons_zero, List.set_cons_succ]
   refine wpAnyH_take (i := 5) (oi := _) (v := ?_) rfl (by kernel_rfl) (by kernel_rfl) (by kernel_rfl) (fun _ _ _ h => h) (Or.inl ⟨by rfl, ?_⟩) (by assumption) ?_
   rotate_left
   focus (intro wS hSw; (try dsimp only at hSw); go_simp; (try with_reducible rfl))
   try simp only [Act.put, List.getElem_toArray, List.getElem_cons_zero, List.getElem_cons_succ, List.setIfInBounds_toArray, List.set_cons_zero, List.set_cons_succ]
   refine wpAnyH_take (i := 6) (oi := _) (v := ?_) rfl (by kernel_rfl) (by kernel_rfl) (by kernel_rfl) (fun _ _ _ h => h) (Or.inl ⟨by rfl, ?_⟩) (by assumption) ?_
   rotate_left
   focus (intro wS hSw; (try dsimp only at hSw); go_simp; (try with_reducible rfl))
   try simp only [Act.put, List.getElem_toArray, List.getElem_cons_zero, List.getElem_cons_succ, List.setIfInBounds_toArray, List.set_cons_zero, List.set_cons_succ]
   refine wpAnyH_take (i := 7) (oi := _) (v := ?_) rfl (by kernel_rfl) (by kernel_rfl) (by kernel_rfl) (fun _ _ _ h => h) (Or.inl ⟨by rfl, ?_⟩) (by assumption) ?_
   rotate_left
   focus (intro wS hSw; (try dsimp only at hSw); go_simp; (try with_reducible rfl))
   try simp only [Act.put, List.getElem_toArray, List.getElem_cons_zero, List.getElem_cons_succ, List.setIfInBounds_toArray, List.set_cons_zero, List.set_cons_succ]
   refine wpAnyH_take (i := 8) (oi := _) (v := ?_) rfl (by kernel_rfl) (by kernel_rfl) (by kernel_rfl) (fun _ _ _ h => h) (Or.inl ⟨by rfl, ?_⟩) (by assumption) ?_
   rotate_left
   focus (intro wS hSw; (try dsimp only at hSw); go_simp; (try with_reducible rfl))
   try simp only [Act.put, List.getElem_toArray, List.getElem_cons_zero, List.getElem_cons_succ, List.setIfInBounds_toArray, List.set_cons_zero, List.set_cons_succ]
   refine wpAnyH_take (i := 9) (oi := _) (v := ?_) rfl (by kernel_rfl) (by kernel_rfl) (by kernel_rfl) (fun _ _ _ h => h) (Or.inl ⟨by rfl, ?_⟩) (by assumption) ?_
   rotate_left
   focus (intro wS hSw; (try dsimp only at hSw); go_simp; (try with_reducible rfl))
   try simp only [Act.put, List.getElem_toArray, List.getElem_cons_zero, List.getElem_cons_succ, List.setIfInBounds_toArray, List.set_cons_zero, List.set_cons_succ]
   refine wpAnyH_take (i := 10) (oi := _) (v := ?_) rfl (by kernel_rfl) (by kernel_rfl) (by kernel_rfl) (fun _ _ _ h => h) (Or.inl ⟨by rfl, ?_⟩) (by assumption) ?_
   rotate_left
   focus (intro wS hSw; (try dsimp only at hSw); go_simp; (try with_reducible rfl))
   try simp only [Act.put, List.getElem_toArray, List.getElem_cons_zero, List.getElem_cons_succ, List.setIfInBounds_toArray, List.set_cons_zero, List.set_cons_succ]
   refine wpAnyH_done (by kernel_rfl) ?_ _
   try clear hHeld
   clear wxl wdd hXL hDD
   by_cases c63 : (DD : Int) < 0
   ·skip
    go_upto_region 16 with fail
    have hqt := HQT.out
    have hrr := HRR.out
    have me3 : -DD ≤ RR := by omega
    have wq : IntKind.i64.wrap QQ = QQ := IntWalk.i64_in _ (by omega)
    have wq2 : IntKind.i64.wrap (2 + QQ) = 2 + QQ := IntWalk.i64_in _ (by omega)
    have wrr : IntKind.i64.wrap RR = RR := IntWalk.i64_in _ (by omega)
    have z64 := H61.out.cell 4 rfl 0 rfl
    have z65 := H61.out.cell 4 rfl 1 rfl
    have z66 := H61.out.cell 4 rfl 2 rfl
    have z67 := H61.out.cell 4 rfl 3 rfl
    go_wp2_with fail
    clear z64 z65 z66 z67
    refine (sane11 _).mono ?_
    rintro e w68 ⟨rfl, hb⟩
    have H69 := hid (H61.out.call hb)
    clear hb
    go_wp2_with fail
    go_ret
    exact ⟨rfl, by first | exact H69.out.below | exact H69.out.below'⟩
   ·skip
    go_upto_region 16 with fail
    have hqt := HQT.out
    have hrr := HRR.out
    have me3 : -DD ≤ RR := by omega
    have wq : IntKind.i64.wrap QQ = QQ := IntWalk.i64_in _ (by omega)
    have wq2 : IntKind.i64.wrap (2 + QQ) = 2 + QQ := IntWalk.i64_in _ (by omega)
    have wrr : IntKind.i64.wrap RR = RR := IntWalk.i64_in _ (by omega)
    have z70 := H61.out.cell 4 rfl 0 rfl
    have z71 := H61.out.cell 4 rfl 1 rfl
    have z72 := H61.out.cell 4 rfl 2 rfl
    have z73 := H61.out.cell 4 rfl 3 rfl
    go_wp2_with fail
    clear z70 z71 z72 z73
    refine (sane11 _).mono ?_
    rintro e w74 ⟨rfl, hb⟩
    have H75 := hid (H61.out.call hb)
    clear hb
    go_wp2_with fail
    go_ret
    exact ⟨rfl, by first | exact H75.out.below | exact H75.out.below'⟩
end Go.Proofs.Ytaefdkinpaonkaa
