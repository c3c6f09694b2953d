/-
  The walk of IntegralSums: the sum out of the integral plane is that of the pixels.
-/
import Derived.Test.YtoojiabdgaflgaaSane13
import Derived.Test.YtoojiabdgaflgaaEqual
import Derived.Test.YtoojiabdgaflgaaIntSum
namespace Go.Proofs.Ytoojiabdgaflgaa
open Go.RowKit
attribute [local go_sem ↓] Go.wp_at_zero Go.wp_at_succ
set_option linter.unusedVariables false
set_option linter.unusedSimpArgs false

set_option maxRecDepth 100000 in
set_option maxHeartbeats 12800000 in
theorem walk_IntegralSums (a : Option Addr) (n c : Nat) (zs : List Int) (W : World) (hr : RowIn .i64 W a n c zs) :
    Calls Try.prog 10 #[.slice a n c] W fun e w' => e = .returned (.bool true) ∧ Below W.heap.size W w' := by
  obtain ⟨B, hB⟩ : ∃ B, W.heap.size = B := ⟨_, rfl⟩
  have HI0 := hid (St.init hB)
  have HN := hid (near_of_row hr hB)
  have HR := hid hr
  clear hr
  go_enter Try.func10, Try.ntmps10
  go_wp2_with fail
  obtain ⟨K1, hK1⟩ : ∃ D, W.heap.size = D := ⟨_, rfl⟩
  refine (newB_any B _ _ _ _ _ HR.out.len (HI0.out.oldRow HR.out.row) HN.out HI0.out.size).mono ?_
  rintro e w2 ⟨rfl, ht, hb, hs⟩
  rw [hK1] at ht ⊢
  have H3 := hid (HI0.out.newTape ht hb hK1)
  clear ht hb hs hK1
  go_wp2_with fail
  refine (plane_any B K1 _ (H3.out.tapeAt 0 rfl)).mono ?_
  rintro e w5 ⟨pw4, ph4, pw41, pw42, ph41, ph42, pm4, pv4, ps4, rfl, hv, hm, ho, ht, hg⟩
  have H6 := hid (H3.out.add (H3.out.next 0 rfl ht hg) ho)
  have HVps4 := hid hv
  have HMps4 := hid hm
  obtain ⟨pv4a, pv4c, rfl, _⟩ := ho.slc
  clear hv hm ho ht hg
  obtain ⟨D7, hD7⟩ : ∃ D, w5.heap.size = D := ⟨_, rfl⟩
  go_upto_region 3 with fail
  have H8 := hid (show St B W [.cells D7 #[.int .i64 pw4, .int .i64 ph4, .int .i64 pm4, .slice pv4a ps4.length pv4c] 26, .own (.slice pv4a ps4.length pv4c) ps4, .tape K1] [] (w5.alloc (.cells #[.int .i64 pw4, .int .i64 ph4, .int .i64 pm4, .slice pv4a ps4.length pv4c] 26)) from (H6.out.alloc #[.int .i64 pw4, .int .i64 ph4, .int .i64 pm4, .slice pv4a ps4.length pv4c] 26 hD7))
  first | refine gen_code H8.out ?_ | refine gen_list H8.out ?_ | refine gen_calls H8.out ?_
  intro w9 hG
  clear H8
  have H8 := hid hG
  clear hG
  clear hD7
  have z10 := H8.out.cell 0 rfl 0 rfl
  have z11 := H8.out.cell 0 rfl 1 rfl
  have z12 := H8.out.cell 0 rfl 2 rfl
  have z13 := H8.out.cell 0 rfl 3 rfl
  go_wp2_with fail
  clear z10 z11 z12 z13
  obtain ⟨hio, pq1, pq2, ar1, ar2⟩ := iOk_small pw41 pw42 ph41 ph42 (pOk_iff.1 (pValid_iff.1 HVps4.out).1).2.2.2.2.2.1 HMps4.out
  obtain ⟨nh, hnh⟩ : ∃ m : Nat, ph4 = m := ⟨ph4.toNat, by omega⟩
  obtain ⟨nw, hnw⟩ : ∃ m : Nat, pw4 = m := ⟨pw4.toNat, by omega⟩
  have HVQ := hid (wList_valid HVps4.out hio hnh hnw)
  have HNH := hid hnh
  have HNW := hid hnw
  obtain ⟨nh1, nh2, nw1, nw2⟩ : ph4 ≤ nh ∧ (nh : Int) ≤ ph4 ∧ pw4 ≤ nw ∧ (nw : Int) ≤ pw4 := by omega
  refine (iwhole_ok _ _ _ _ _ _ ps4 _ (H8.out.slc 1 rfl) HVps4.out hio nh nw hnh hnw).mono ?_
  rintro e w14 ⟨vq, rfl, ho, hb⟩
  have H15 := hid (H8.out.grow hb ho)
  obtain ⟨vqa, vqc, rfl, _⟩ := ho.slc
  obtain ⟨AR, hAR⟩ : ∃ z, pw4 * ph4 * pm4 = z := ⟨_, rfl⟩
  rw [hAR] at ar1 ar2 HVQ ⊢
  have HAR := hid hAR
  obtain ⟨NN, hNN⟩ : ∃ N : Nat, nh * nw = N := ⟨_, rfl⟩
  have HNN := hid hNN
  have hPQ : pw4 * ph4 = (NN : Int) := by rw [← hNN, hnw, hnh, Int.mul_comm]; simp
  have hln : (wList pw4 ps4 nh nw).length = NN := by rw [wList_len, hNN]
  have HPL := hid (show ps4.length = NN from by have := (pValid_iff.1 HVps4.out).2.1; rw [hPQ] at this; omega)
  rw [hln] at H15 ⊢
  have HWL := hid hln
  obtain ⟨nn1, nn2⟩ : 1 ≤ NN ∧ NN ≤ 30 := by omega
  have HPQ := hid hPQ
  clear ho hb hln hNN hAR hnh hnw hio pq1 pq2 hPQ
  obtain ⟨D16, hD16⟩ : ∃ D, w14.heap.size = D := ⟨_, rfl⟩
  go_upto_region 4 with fail
  have H17 := hid (show St B W [.cells D16 #[.int .i64 pw4, .int .i64 ph4, .int .i64 AR, .slice vqa NN vqc] 26, .own (.slice vqa NN vqc) (wList pw4 ps4 nh nw), .cells D7 #[.int .i64 pw4, .int .i64 ph4, .int .i64 pm4, .slice pv4a ps4.length pv4c] 26, .own (.slice pv4a ps4.length pv4c) ps4, .tape K1] [] (w14.alloc (.cells #[.int .i64 pw4, .int .i64 ph4, .int .i64 AR, .slice vqa NN vqc] 26)) from (H15.out.alloc #[.int .i64 pw4, .int .i64 ph4, .int .i64 AR, .slice vqa NN vqc] 26 hD16))
  first | refine gen_code H17.out ?_ | refine gen_list H17.out ?_ | refine gen_calls H17.out ?_
  intro w18 hG
  clear H17
  have H17 := hid hG
  clear hG
  clear hD16
  have z19 := H17.out.cell 2 rfl 0 rfl
  have z20 := H17.out.cell 2 rfl 1 rfl
  have z21 := H17.out.cell 2 rfl 2 rfl
  have z22 := H17.out.cell 2 rfl 3 rfl
  go_wp2_with fail
  clear z19 z20 z21 z22
  refine (within_any B K1 _ _ _ (by omega) (by omega) (by omega) (by omega) (H17.out.tapeAt 4 rfl)).mono ?_
  rintro e w24 ⟨q23_0, q23_1, q23_2, q23_3, rfl, hq23, ht, hg⟩
  have H25 := hid (H17.out.next 4 rfl ht hg)
  have HWq23 := hid hq23
  clear hq23 ht hg
  obtain ⟨hq0, hq1, hq2, hq3, hq4, hq5⟩ := HWq23.out
  obtain ⟨D26, hD26⟩ : ∃ D, w24.heap.size = D := ⟨_, rfl⟩
  go_upto_region 5 with fail
  have H27 := hid (show St B W [.cells D26 #[.int .i64 q23_0, .int .i64 q23_1, .int .i64 q23_2, .int .i64 q23_3] 39, .cells D16 #[.int .i64 pw4, .int .i64 ph4, .int .i64 AR, .slice vqa NN vqc] 26, .own (.slice vqa NN vqc) (wList pw4 ps4 nh nw), .cells D7 #[.int .i64 pw4, .int .i64 ph4, .int .i64 pm4, .slice pv4a ps4.length pv4c] 26, .own (.slice pv4a ps4.length pv4c) ps4, .tape K1] [] (w24.alloc (.cells #[.int .i64 q23_0, .int .i64 q23_1, .int .i64 q23_2, .int .i64 q23_3] 39)) from (H25.out.alloc #[.int .i64 q23_0, .int .i64 q23_1, .int .i64 q23_2, .int .i64 q23_3] 39 hD26))
  first | refine gen_code H27.out ?_ | refine gen_list H27.out ?_ | refine gen_calls H27.out ?_
  intro w28 hG
  clear H27
  have H27 := hid hG
  clear hG
  clear hD26
  have z29 := H27.out.cell 1 rfl 0 rfl
  have z30 := H27.out.cell 1 rfl 1 rfl
  have z31 := H27.out.cell 1 rfl 2 rfl
  have z32 := H27.out.cell 1 rfl 3 rfl
  have z33 := H27.out.cell 0 rfl 0 rfl
  have z34 := H27.out.cell 0 rfl 1 rfl
  have z35 := H27.out.cell 0 rfl 2 rfl
  have z36 := H27.out.cell 0 rfl 3 rfl
  go_wp2_with fail
  clear z29 z30 z31 z32 z33 z34 z35 z36
  refine (isum_any _ _ _ _ _ _ (wList pw4 ps4 nh nw) _ _ _ _ _ (H27.out.slc 2 rfl)).mono ?_
  rintro e w37 ⟨rfl, hb⟩
  have H38 := hid (H27.out.call hb)
  clear hb
  have hso := sum_ok HVQ.out (r0 := q23_0) (r1 := q23_1) (r2 := q23_2) (r3 := q23_3) (by omega)
  rw [hso.1, hso.2]
  clear hso
  have hsr := sRaw_whole (zs := ps4) HNH.out HNW.out (r0 := q23_0) (r1 := q23_1) (r2 := q23_2) (r3 := q23_3) (by omega) (by omega) (by omega) (by omega) (by omega) (by omega)
  obtain ⟨SV39, hSV39⟩ : ∃ z, sRaw pw4 (wList pw4 ps4 nh nw) q23_0 q23_1 q23_2 q23_3 = z := ⟨_, rfl⟩
  rw [hSV39] at hsr ⊢
  have HSV39 := hid hSV39
  have HRSV39 := hid hsr
  obtain ⟨SV39a, SV39b⟩ : 0 ≤ SV39 ∧ SV39 ≤ 1966050 := by rw [hsr]; exact rect_bd HVps4.out HMps4.out _ _ (by omega) (by omega)
  clear hSV39 hsr
  have z40 := H38.out.cell 0 rfl 0 rfl
  have z41 := H38.out.cell 0 rfl 1 rfl
  have z42 := H38.out.cell 0 rfl 2 rfl
  have z43 := H38.out.cell 0 rfl 3 rfl
  go_wp2_with fail
  clear z40 z41 z42 z43
  obtain ⟨KK, hKK⟩ : ∃ K : Nat, (q23_3 - q23_1).toNat = K := ⟨_, rfl⟩
  obtain ⟨JJ, hJJ⟩ : ∃ K : Nat, (q23_2 - q23_0).toNat = K := ⟨_, rfl⟩
  have HRS := hid (show SV39 = rowsS pw4 ps4 q23_0 q23_1 KK JJ by rw [← hKK, ← hJJ]; exact HRSV39.out)
  obtain ⟨kk1, kk2, kk3⟩ : q23_3 - q23_1 ≤ KK ∧ (KK : Int) ≤ q23_3 - q23_1 ∧ KK ≤ 5 := by omega
  obtain ⟨jj1, jj2, jj3⟩ : q23_2 - q23_0 ≤ JJ ∧ (JJ : Int) ≤ q23_2 - q23_0 ∧ JJ ≤ 6 := by omega
  clear hKK hJJ
  go_loopw [10, 8] (fun i s wr => ∃ k : Nat, k ≤ KK ∧ i = .int .i64 (q23_1 + k) ∧ s = .int .i64 (SV39 - rowsS pw4 ps4 q23_0 q23_1 k JJ) ∧ St B W [.cells D26 #[.int .i64 q23_0, .int .i64 q23_1, .int .i64 q23_2, .int .i64 q23_3] 39, .cells D16 #[.int .i64 pw4, .int .i64 ph4, .int .i64 AR, .slice vqa NN vqc] 26, .own (.slice vqa NN vqc) (wList pw4 ps4 nh nw), .cells D7 #[.int .i64 pw4, .int .i64 ph4, .int .i64 pm4, .slice pv4a ps4.length pv4c] 26, .own (.slice pv4a ps4.length pv4c) ps4, .tape K1] [] wr) (fun i _ _ => (q23_3 - intOf i).toNat)
  case atStart => exact ⟨0, by omega, by simp, by rw [show rowsS pw4 ps4 q23_0 q23_1 0 JJ = 0 from rfl, Int.sub_zero], H38.out⟩
  case round =>
    obtain ⟨k, hk, rfl, rfl, hst⟩ := hrel
    obtain ⟨u44, rfl⟩ : ∃ u44 : World, u44 = wr := ⟨_, rfl⟩
    have H45 := hid hst
    clear hst
    obtain ⟨R11, R12⟩ := rect_bd HVps4.out HMps4.out q23_0 q23_1 (k := k) (j := JJ) (by omega) (by omega)
    obtain ⟨R1, hR1⟩ : ∃ z, rowsS pw4 ps4 q23_0 q23_1 k JJ = z := ⟨_, rfl⟩
    rw [hR1] at R11 R12 ⊢
    have HR1 := hid hR1
    clear hR1
    by_cases hkn : k < KK
    · skip
      have hkn' : q23_1 + (k : Int) < q23_3 := by omega
      have z46 := H45.out.cell 0 rfl 0 rfl
      have z47 := H45.out.cell 0 rfl 1 rfl
      have z48 := H45.out.cell 0 rfl 2 rfl
      have z49 := H45.out.cell 0 rfl 3 rfl
      go_wp2_with fail
      clear z46 z47 z48 z49
      go_loopw [11, 8] (fun i s wr => ∃ j : Nat, j ≤ JJ ∧ i = .int .i64 (q23_0 + j) ∧ s = .int .i64 (SV39 - R1 - rowS pw4 ps4 q23_0 q23_1 k j) ∧ St B W [.cells D26 #[.int .i64 q23_0, .int .i64 q23_1, .int .i64 q23_2, .int .i64 q23_3] 39, .cells D16 #[.int .i64 pw4, .int .i64 ph4, .int .i64 AR, .slice vqa NN vqc] 26, .own (.slice vqa NN vqc) (wList pw4 ps4 nh nw), .cells D7 #[.int .i64 pw4, .int .i64 ph4, .int .i64 pm4, .slice pv4a ps4.length pv4c] 26, .own (.slice pv4a ps4.length pv4c) ps4, .tape K1] [] wr) (fun i _ _ => (q23_2 - intOf i).toNat)
      case atStart => exact ⟨0, by omega, by simp, by rw [show rowS pw4 ps4 q23_0 q23_1 k 0 = 0 from rfl, Int.sub_zero], H45.out⟩
      case round =>
        obtain ⟨j, hj, rfl, rfl, hst⟩ := hrel
        obtain ⟨u50, rfl⟩ : ∃ u50 : World, u50 = wr := ⟨_, rfl⟩
        have H51 := hid hst
        clear hst
        obtain ⟨R21, R22⟩ := rowS_bd5 HVps4.out HMps4.out q23_0 q23_1 k (j := j) (by omega)
        have HRS0 := hid (show rowS pw4 ps4 q23_0 q23_1 k (j + 1) = rowS pw4 ps4 q23_0 q23_1 k j + tPix pw4 ps4 q23_0 q23_1 k j from rfl)
        obtain ⟨R2, hR2⟩ : ∃ z, rowS pw4 ps4 q23_0 q23_1 k j = z := ⟨_, rfl⟩
        rw [hR2] at R21 R22 HRS0 ⊢
        have HR2 := hid hR2
        clear hR2
        by_cases hjn : j < JJ
        · skip
          have hjn' : q23_0 + (j : Int) < q23_2 := by omega
          obtain ⟨pz1, pz2⟩ := tPix_bd HVps4.out q23_0 q23_1 k j
          have hpm := HMps4.out
          obtain ⟨pa0, pa1, pa2, pa3⟩ := pix_at (w := pw4) (h := ph4) (x := q23_0 + j) (y := q23_1 + k) (by omega) (by omega) (by omega) (by omega) (by omega) (by omega) (by omega)
          have hpq := HPQ.out
          rw [hpq] at pa3
          clear hpq
          obtain ⟨PA, hPA⟩ : ∃ P, (q23_1 + (k : Int)) * pw4 = P := ⟨_, rfl⟩
          rw [hPA] at pa0 pa1 pa2 pa3
          have hlt : PA + (q23_0 + (j : Int)) < ps4.length := by have := HPL.out; omega
          obtain ⟨pbk, po, hpa⟩ := row_at (H51.out.slc 4 rfl).row (by omega)
          have cz := row_cell (by rw [← hpa]; exact (H51.out.slc 4 rfl).row) (j := (PA + (q23_0 + (j : Int))).toNat) (by omega)
          have HPZ0 : Hid (tPix pw4 ps4 q23_0 q23_1 k j = ps4.getD (PA + (q23_0 + (j : Int))).toNat 0) := by rw [← hPA, ← Int.add_assoc]; rfl
          rw [← HPZ0.out] at cz
          obtain ⟨pz, hpz⟩ : ∃ z, tPix pw4 ps4 q23_0 q23_1 k j = z := ⟨_, rfl⟩
          rw [hpz] at cz pz1 pz2
          have HPZ := hid hpz
          clear hpz
          subst hpa
          have z52 := H51.out.cell 0 rfl 0 rfl
          have z53 := H51.out.cell 0 rfl 1 rfl
          have z54 := H51.out.cell 0 rfl 2 rfl
          have z55 := H51.out.cell 0 rfl 3 rfl
          have z56 := H51.out.cell 3 rfl 0 rfl
          have z57 := H51.out.cell 3 rfl 1 rfl
          have z58 := H51.out.cell 3 rfl 2 rfl
          have z59 := H51.out.cell 3 rfl 3 rfl
          go_wp2_with fail
          clear z52 z53 z54 z55 z56 z57 z58 z59
          go_roundw
          case rel => exact ⟨j + 1, by omega, by go_num, by rw [HRS0.out, HPZ.out, ← Int.sub_sub], H51.out⟩
          case measure => first | (simp [intOf]; omega) | (simp [intOf]; done)
        · skip
          have hjn' : ¬ (q23_0 + (j : Int) < q23_2) := by omega
          have HRZ := hid (show SV39 - rowsS pw4 ps4 q23_0 q23_1 (k + 1) JJ = SV39 - R1 - R2 from by rw [← HR1.out, ← HR2.out, show j = JJ by omega, Int.sub_sub]; rfl)
          have z60 := H51.out.cell 0 rfl 0 rfl
          have z61 := H51.out.cell 0 rfl 1 rfl
          have z62 := H51.out.cell 0 rfl 2 rfl
          have z63 := H51.out.cell 0 rfl 3 rfl
          go_wp2_with fail
          clear z60 z61 z62 z63
          go_roundw
          case rel => exact ⟨k + 1, by omega, by go_num, by rw [HRZ.out], H51.out⟩
          case measure => first | (simp [intOf]; omega) | (simp [intOf]; done)
    · skip
      have hkn' : ¬ (q23_1 + (k : Int) < q23_3) := by omega
      have hz : SV39 - R1 = 0 := by rw [HRS.out, ← HR1.out, show k = KK by omega]; omega
      rw [hz]
      clear hz
      have z64 := H45.out.cell 0 rfl 0 rfl
      have z65 := H45.out.cell 0 rfl 1 rfl
      have z66 := H45.out.cell 0 rfl 2 rfl
      have z67 := H45.out.cell 0 rfl 3 rfl
      go_wp2_with fail
      clear z64 z65 z66 z67
      refine (sane13 _).mono ?_
      rintro e w68 ⟨rfl, hb⟩
      have H69 := hid (H45.out.call hb)
      clear hb
      go_wp2_with fail
      go_ret
      exact ⟨rfl, by first | exact H69.out.below | exact H69.out.below'⟩
end Go.Proofs.Ytoojiabdgaflgaa
