/-
  Contract: the tape's Table: a valid table of at most six taps; the tape alone has changed.
-/
import Derived.Test.YtaefdkinpaonkaaTkR
import Derived.Test.YtaefdkinpaonkaaTab4
import Derived.Test.YtaefdkinpaonkaaTabLaw
import Derived.Test.YtaefdkinpaonkaaWeights
namespace Go.Proofs.Ytaefdkinpaonkaa
open Go.RowKit
attribute [local go_sem ↓] Go.wp_at_zero Go.wp_at_succ
set_option linter.unusedVariables false
set_option linter.unusedSimpArgs false

/-- A table that the tape makes. -/
structure TbOk (ts : Tbl) : Prop where
  l0 : 1 ≤ ts.length
  l1 : ts.length ≤ 6
  one : ∀ i, i < ts.length → tvOne (ts.getD i (0, [])) = 0
def TablePost (B0 k : Nat) (W : World) (e : Ending) (w' : World) : Prop :=
  ∃ (v : Value) (ts : Tbl), e = .returned v ∧ TbOk ts ∧ OwnT W.heap.size w' v ts ∧ TapeB B0 w' k ∧ W.grownBy w' (some k)
theorem tb_ln {n : Int} {M : Nat} (hn : 1 ≤ n ∧ n ≤ 128) (hm : 1 ≤ M ∧ M ≤ 6) : tgCode n (M : Int) 8 = 0 ∧ (lnT n (M : Int) 8).length = M ∧ ∀ i, i < M → tvOne ((lnT n (M : Int) 8).getD i (0, [])) = 0 := by
  obtain ⟨h1, h2, _, h4⟩ := ln_valid (n := n) (m := (M : Int)) (s := 8) hn (by omega) (by omega)
  rw [Int.toNat_natCast] at h2 h4
  exact ⟨h1, h2, fun i hi => by rw [h4 i hi]; exact ln_one hn (by omega) (by omega) (by omega)⟩
theorem tb_bx {n : Int} {M : Nat} (hn : 1 ≤ n ∧ n ≤ 128) (hm : 1 ≤ M ∧ M ≤ 6) (hc : bxCode n (M : Int) 8 = 0) : TbOk (bxT n (M : Int) 8) := by
  have h0 : tgCode n (M : Int) 8 = 0 := (tb_ln hn hm).1
  have hb : bxBad n (M : Int) M = false := by
    unfold bxCode at hc; rw [if_neg (by rw [h0]; simp), Int.toNat_natCast] at hc
    cases q : bxBad n (M : Int) M with
    | false => rfl
    | true => rw [q] at hc; simp at hc
  have hl : (bxT n (M : Int) 8).length = M := by unfold bxT bxTo; rw [if_pos hc]; simp
  refine ⟨by omega, by omega, fun i hi => ?_⟩
  rw [hl] at hi
  have h8 := bxBad_all hb i hi
  have hg : (bxT n (M : Int) 8).getD i (0, []) = bxTap n (M : Int) 8 i := by unfold bxT bxTo; rw [if_pos hc, Int.toNat_natCast, rangeD _ _ hi]
  rw [hg]
  exact (bx_one hn (by omega) (by omega) (by omega) h8 (bx_in hn (by omega) (by omega) (by omega) h8)).1
theorem tb_new {k : Int} {ws : List Int} (hk : -128 ≤ k ∧ k ≤ 256) (hl : 1 ≤ ws.length ∧ ws.length ≤ 8) (hw : ∀ i, -20 ≤ ws.getD i 0 ∧ ws.getD i 0 ≤ 20) : tvOne (k, ws) = 0 := by
  unfold tvOne
  rw [if_neg (show ¬ (ws.length = 0 ∨ 8 < ws.length) by omega), if_neg (by rw [show wAll (k, ws).2 = true from (wAll_of (fun i _ => by have := hw i; omega) : wAll ws = true)]; simp), if_neg (by unfold tFirst; simp; omega)]
/-- Each tap of a table is good. -/
def TpOk (tp : List (Int × Ro)) : Prop := ∀ i, i < tp.length → tvOne ((tapD tp).getD i (0, [])) = 0
theorem TpOk.set {tp : List (Int × Ro)} (h : TpOk tp) {k : Int} {r : Ro} (hn : tvOne (k, r.zs) = 0) (j : Nat) : TpOk (tp.set j (k, r)) := by
  intro i hi
  rw [List.length_set] at hi
  unfold tapD
  rw [List.getD_eq_getElem?_getD, List.getElem?_map, List.getElem?_set]
  by_cases e : j = i
  · subst e; rw [if_pos rfl, if_pos hi]; exact hn
  · rw [if_neg e]
    have := h i hi
    unfold tapD at this
    rwa [List.getD_eq_getElem?_getD, List.getElem?_map] at this

set_option maxRecDepth 100000 in
set_option maxHeartbeats 6400000 in
theorem table_any (B0 k : Nat) (n : Int) (W : World) (hn : 1 ≤ n ∧ n ≤ 128) (ht : TapeB B0 W k) :
    Calls Try.prog 10 #[.pointer (some ⟨k, 0, none⟩), .int .i64 n] W (TablePost B0 k W) := by
  obtain ⟨B, hB⟩ : ∃ B, W.heap.size = B := ⟨_, rfl⟩
  have HI0 := hid (TkR.init ht hB)
  obtain ⟨n1, n2⟩ := hn
  clear ht
  go_enter Try.func10, Try.ntmps10
  go_wp2_with fail
  refine (nextB_any B0 k _ _ (by omega) (HI0.out.tape)).mono ?_
  rintro e w2 ⟨x1, rfl, x1a, x1b, htn, hgn, hsn⟩
  have H3 := hid (HI0.out.next htn hgn)
  clear htn hgn hsn
  obtain ⟨M, hM⟩ : ∃ N : Nat, 1 + x1 = (N : Int) := ⟨(1 + x1).toNat, by omega⟩
  obtain ⟨M1, M2⟩ : 1 ≤ M ∧ M ≤ 6 := by omega
  have HLN := hid (tb_ln (n := n) (M := M) ⟨n1, n2⟩ ⟨M1, M2⟩)
  have HBX := hid (fun hc => tb_bx (n := n) (M := M) ⟨n1, n2⟩ ⟨M1, M2⟩ hc)
  go_upto_region 2 with fail
  go_wp2_with fail
  refine (rlinear_any n (M : Int) 8 _).mono ?_
  rintro e w4 ⟨v6, rfl, ho, hb⟩
  rw [HLN.out.1]
  obtain ⟨TL, hTL⟩ : ∃ T, lnT n (M : Int) 8 = T := ⟨_, rfl⟩
  rw [hTL] at ho HLN
  clear hTL
  obtain ⟨tpl, R1, ta, tc, rfl, htd, htq, -, hst⟩ := H3.out.addT' hb ho
  rw [HLN.out.2.1] at hst ⊢
  have HQ := hid htq
  have HD := hid htd
  have HOKL := hid (show TpOk tpl from by intro i hi; rw [htd]; exact HLN.out.2.2 i (by rw [← tapD_len, htd, HLN.out.2.1] at hi; exact hi))
  have HTL := hid (show tpl.length = M from by rw [← tapD_len, htd, HLN.out.2.1])
  have H5 := hid hst
  clear htq htd hst ho hb
  go_wp2_with fail
  refine (nextB_any B0 k _ _ (by omega) (H5.out.tape)).mono ?_
  rintro e w8 ⟨x7, rfl, x7a, x7b, htn, hgn, hsn⟩
  have H9 := hid (H5.out.next htn hgn)
  clear htn hgn hsn
  by_cases c10 : (x7 : Int) = 0
  · obtain ⟨c10c, c10d⟩ : (x7 : Int) ≤ 0 ∧ (0 : Int) ≤ x7 := by omega
    have c10a : ((x7 : Int) == (0)) = true := by simpa using c10
    have c10b : ((x7 : Int) != (0)) = false := by simpa using c10
    have c10h := hid c10
    clear c10
    go_wp2_with fail
    refine (rbox_any n (M : Int) 8 _).mono ?_
    rintro e w11 ⟨v13, rfl, ho, hb⟩
    obtain ⟨TX, hTX⟩ : ∃ T, bxT n (M : Int) 8 = T := ⟨_, rfl⟩
    obtain ⟨cX, hcX⟩ : ∃ T, bxCode n (M : Int) 8 = T := ⟨_, rfl⟩
    rw [hTX] at ho HBX
    rw [hcX] at HBX ⊢
    clear hTX hcX
    obtain ⟨tpx, R2, xa, xc, rfl, htd, htq, hmo, hst⟩ := H9.out.addT' hb ho
    have HQX := hid htq
    have HDX := hid htd
    have HQ2 := hid (hmo _ HQ.out)
    have H12 := hid hst
    clear htq htd hmo hst ho hb
    by_cases hcc : cX = 0
    · skip
      obtain rfl : 0 = cX := hcc.symm
      go_wp2_with fail
      have HOK := hid (show TbOk TX from by first | exact HBX.out rfl | exact HBX.out trivial)
      go_ret
      exact ⟨_, TX, rfl, HOK.out, by rw [hB]; have h9 := H12.out.outT 0 rfl HQX.out; rw [HDX.out] at h9; exact h9, H12.out.tape, H12.out.grown⟩
    · skip
      have hcc2 : (cX == 0) = false := by simpa using hcc
      clear hcc
      go_wp2_with fail
      go_ret
      exact ⟨_, TL, rfl, ⟨by rw [HLN.out.2.1]; omega, by rw [HLN.out.2.1]; omega, fun i hi => HLN.out.2.2 i (by rw [HLN.out.2.1] at hi; exact hi)⟩, by rw [hB]; have h9 := H12.out.outT 1 rfl HQ2.out; rw [HD.out] at h9; exact h9, H12.out.tape, H12.out.grown⟩
  · have c10a : ((x7 : Int) == (0)) = false := by simpa using c10
    have c10b : ((x7 : Int) != (0)) = true := by simpa using c10
    have c10h := hid c10
    clear c10
    go_upto_region 8 with fail
    obtain ⟨ga, gc, hga⟩ := arr_posT (H9.out.arrOfT 0 rfl) (by omega)
    injection hga with hg1 hg2 hg3
    subst hg1 hg3
    clear hg2
    go_wp2_with fail
    go_loopw [10] (fun i wr => ∃ (j : Nat) (tp : List (Int × Ro)) (Rs : List Ro), j ≤ M ∧ tp.length = M ∧ TpOk tp ∧ TQ B Rs tp ∧ i = .int .i64 j ∧ TkR B0 k B W [.arr (32) 2 (.slice (some ⟨ga, 0, none⟩) M tc) M (tapV tp)] Rs wr) (fun i _ => M - (intOf i).toNat)
    case atStart => exact ⟨0, _, _, by omega, HTL.out, HOKL.out, HQ.out, rfl, H9.out⟩
    case round =>
      obtain ⟨j, tp, Rs, hj, htl, htk, htq, rfl, hst⟩ := hrel
      obtain ⟨u14, rfl⟩ : ∃ u14 : World, u14 = wr := ⟨_, rfl⟩
      have H15 := hid hst
      clear hst
      have HTK := hid htk
      have HTQ := hid htq
      clear htk htq
      by_cases hjn : j < M
      · skip
        have hjn' : (j : Int) < M := by omega
        go_wp2_with fail
        refine (nextB_any B0 k _ _ (by omega) (H15.out.tape)).mono ?_
        rintro e w17 ⟨x16, rfl, x16a, x16b, htn, hgn, hsn⟩
        have H18 := hid (H15.out.next htn hgn)
        clear htn hgn hsn
        by_cases c19 : (x16 : Int) = 0
        · obtain ⟨c19c, c19d⟩ : (x16 : Int) ≤ 0 ∧ (0 : Int) ≤ x16 := by omega
          have c19a : ((x16 : Int) == (0)) = true := by simpa using c19
          have c19b : ((x16 : Int) != (0)) = false := by simpa using c19
          have c19h := hid c19
          clear c19
          go_wp2_with fail
          refine (nextB_any B0 k _ _ (by omega) (H18.out.tape)).mono ?_
          rintro e w21 ⟨x20, rfl, x20a, x20b, htn, hgn, hsn⟩
          have H22 := hid (H18.out.next htn hgn)
          clear htn hgn hsn
          go_wp2_with fail
          refine (nextB_any B0 k _ _ (by omega) (H22.out.tape)).mono ?_
          rintro e w24 ⟨x23, rfl, x23a, x23b, htn, hgn, hsn⟩
          have H25 := hid (H22.out.next htn hgn)
          clear htn hgn hsn
          go_wp2_with fail
          obtain ⟨KK, hKK⟩ : ∃ z, x20 - 4 = z := ⟨_, rfl⟩
          obtain ⟨kk1, kk2⟩ : -4 ≤ KK ∧ KK ≤ 256 := by omega
          refine (weights_any B0 k _ _ (by omega) (H25.out.tape)).mono ?_
          rintro e w26 ⟨wv27, wl28, rfl, hlen, hin, ho, ht, hg⟩
          have H29 := hid (H25.out.add ht hg ho)
          have HWLwl28 := hid hlen
          have HWBwl28 := hid hin
          obtain ⟨wv27a, wv27c, rfl, -⟩ := ho.slc
          clear hlen hin ho ht hg
          obtain ⟨_, _, z30, z31, z32, z33⟩ := H29.out.tapCell 1 rfl (j := j) (by omega)
          go_upto_region 10 with fail
          clear z30 z31 z32 z33
          have H34 := hid (show TkR B0 k B W [.own (.slice wv27a wl28.length wv27c) wl28, .arr (32) 2 (.slice (some ⟨ga, 0, none⟩) M tc) M (((tapV tp).set (j * 2) (.int .i64 KK)).set (j * 2 + 1) (.slice wv27a wl28.length wv27c))] Rs ((w26.setCell ⟨ga, j * 2, none⟩ (.int .i64 KK)).setCell ⟨ga, j * 2 + 1, none⟩ (.slice wv27a wl28.length wv27c)) from ((H29.out.storeTap 1 rfl (j * 2) (.int .i64 KK)).storeTap 1 rfl (j * 2 + 1) (.slice wv27a wl28.length wv27c)))
          first | refine gen_vcode H34.out ?_ | refine gen_vlist H34.out ?_ | refine gen_vcalls H34.out ?_
          intro w35 hG
          clear H34
          have H34 := hid hG
          clear hG
          go_wp2_with fail
          have H36 := H34.out.pick (l' := [.own (.slice wv27a wl28.length wv27c) wl28, .arr (32) 2 (.slice (some ⟨ga, 0, none⟩) M tc) M (((tapV tp).set (j * 2) (.int .i64 KK)).set (j * 2 + 1) (.slice wv27a wl28.length wv27c))]) [0, 1] rfl (by decide)
          have hNW := H36.lay 0 rfl
          have hLY := H36.freeze 0 rfl
          simp only [List.eraseIdx] at hLY
          rw [show ((tapV tp).set (j * 2) (.int .i64 KK)).set (j * 2 + 1) (.slice wv27a wl28.length wv27c) = tapV (tp.set j (KK, ⟨wv27a, wl28.length, wv27c, wl28⟩)) from tapV_set tp j (KK, ⟨wv27a, wl28.length, wv27c, wl28⟩) (by omega)] at hLY
          have HNW := hid (show tvOne (KK, wl28) = 0 from tb_new (by omega) (by have := HWLwl28.out; omega) HWBwl28.out)
          go_roundw
          case rel => exact ⟨j + 1, _, _, by omega, by rw [List.length_set]; exact htl, HTK.out.set HNW.out j, HTQ.out.set hNW j, by go_num, hLY⟩
          case measure => first | (simp [intOf]; omega) | (simp [intOf]; done)
        · have c19a : ((x16 : Int) == (0)) = false := by simpa using c19
          have c19b : ((x16 : Int) != (0)) = true := by simpa using c19
          have c19h := hid c19
          clear c19
          go_wp2_with fail
          go_roundw
          case rel => exact ⟨j + 1, _, _, by omega, htl, HTK.out, HTQ.out, by go_num, H18.out⟩
          case measure => first | (simp [intOf]; omega) | (simp [intOf]; done)
      · skip
        have hjn' : ¬ ((j : Int) < M) := by omega
        go_wp2_with fail
        go_ret
        exact ⟨_, tapD tp, rfl, ⟨by rw [tapD_len]; omega, by rw [tapD_len]; omega, fun i hi => HTK.out i (by rw [tapD_len] at hi; exact hi)⟩, by rw [hB]; exact H15.out.outT 0 rfl HTQ.out, H15.out.tape, H15.out.grown⟩
end Go.Proofs.Ytaefdkinpaonkaa
