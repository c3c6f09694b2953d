/-
  Contracts: quantized tables, in the program and in the reference.
-/
import Derived.Test.YtgpblcddebhphaaDoorMatU
namespace Go.Proofs.YtgpblcddebhphaaDoor
open Go.RowKit
attribute [local go_sem ↓] Go.wp_at_zero Go.wp_at_succ
set_option linter.unusedVariables false
set_option linter.unusedSimpArgs false

set_option maxRecDepth 100000 in
set_option maxHeartbeats 6400000 in
theorem tquant_any (fa : Option Addr) (fn fc : Nat) (fs : List Int) (la : Option Addr) (m lc : Nat) (L : List (List Int)) (s : Int) (W : World) (hf : Slc W fa fn fc fs) (hl : MatU W la m lc L) (hT : Tab W) : Calls Tryd.prog 23 #[.slice fa fn fc, .slice la m lc, .int .i64 s] W (TabPost (qtT fs L s) (qtCode fs L s) W) := by
  have HFL := hid hf.len
  have HLL := hid hl.len
  have nf : (fn : Int) ≤ 9223372036854775807 := by have := hf.nc; have := hf.cap; omega
  have nl : (m : Int) ≤ 9223372036854775807 := by have := hl.nc; have := hl.cap; omega
  by_cases hg : fn ≠ m ∨ m = 0 ∨ 128 < m
  · have HC := hid (qt_8 (s := s) (show qtBad fs L from by unfold qtBad; rw [HFL.out, ← HLL.out]; exact hg))
    rw [HC.out, qtT_no (by rw [HC.out]; decide)]
    have k1' : fn = m → decide (1 ≤ (m : Int) ∧ (m : Int) ≤ 128) = false := by intro h; simp; omega
    by_cases h1 : fn = m
    · have k2 := k1' h1
      subst h1
      have k3 : ((fn : Int) != (fn : Int)) = false := by simp
      rcases (show fn = 0 ∨ 128 < fn by omega) with h0 | h0
      · have k4 : ((fn : Int) == 0) = true := by simp; omega
        go_enter Tryd.func23, Tryd.ntmps23
        go_wp2
        all_goals (go_ret2; exact tab_no rfl (Below.refl _ _))
      · have k4 : ((fn : Int) == 0) = false := by simp; omega
        have k5 : (128 : Int) < fn := by omega
        go_enter Tryd.func23, Tryd.ntmps23
        go_wp2
        all_goals (go_ret2; exact tab_no rfl (Below.refl _ _))
    · have k3 : ((fn : Int) != (m : Int)) = true := by simp; omega
      have k4 : (fn != m) = true := by simp; omega
      go_enter Tryd.func23, Tryd.ntmps23
      go_wp2
      all_goals (go_ret2; exact tab_no rfl (Below.refl _ _))
  obtain ⟨rfl, m1, m2⟩ : fn = m ∧ 1 ≤ m ∧ m ≤ 128 := by omega
  have HGD := hid (show ¬ qtBad fs L from by unfold qtBad; rw [HFL.out, ← HLL.out]; exact hg)
  clear hg
  have k3 : ((fn : Int) != (fn : Int)) = false := by simp
  have k4 : ((fn : Int) == 0) = false := by simp; omega
  obtain ⟨fb, fo, hfa⟩ := row_at hf.row (by omega)
  subst hfa
  obtain ⟨lb, lo, hla⟩ := hl.at (by omega)
  subst hla
  have HF := hid hf
  have HM := hid hl
  obtain ⟨B, hB⟩ : ∃ B, W.heap.size = B := ⟨_, rfl⟩
  have HI0 := hid (St.init hB)
  clear hf hl
  have HT := hid hT
  have HB0 := hid (show 0 < B from by rw [← hB]; exact hT.pos)
  clear hT
  go_enter Tryd.func23, Tryd.ntmps23
  obtain ⟨DT, hDT⟩ : ∃ L, W.heap.size = L := ⟨_, rfl⟩
  go_upto_region 4 with (at_make; refine make_taps rfl _ _ rfl DT _ _ fn rfl rfl (by rfl) (by rfl) (by omega) (by omega) ?_; intro w1 ho hb; rw [hDT] at ho hb ⊢; have H2 := hid (St.nilRo (HI0.out.growE (by rw [hDT]; exact hb) (by rw [hDT]; exact ho))); clear ho hb hDT)
  go_wp2_with fail
  go_loopw [33] (fun i wr => ∃ (j : Nat) (tp : List (Int × Ro)) (Rs : List Ro), j ≤ fn ∧ TabTo (qtTap fs L s) tp fn j ∧ TQ B Rs tp ∧ qtTo fs L s j = 0 ∧ i = .int .i64 j ∧ St B W [.arr (31) 2 (.slice (some ⟨DT, 0, none⟩) fn fn) fn (tapV tp)] Rs wr) (fun i _ => fn - (intOf i).toNat)
  case atStart => exact ⟨0, _, _, by omega, TabTo.zero _ _, TQ.nils _ _ _, rfl, rfl, H2.out⟩
  case round =>
    obtain ⟨j, tp, Rs, hj, htt, htq, hq0, rfl, hst⟩ := hrel
    obtain ⟨u4, rfl⟩ : ∃ u4 : World, u4 = wr := ⟨_, rfl⟩
    have H5 := hid hst
    clear hst
    have HTT := hid htt
    have HTQ := hid htq
    have HQ0 := hid hq0
    have htl : tp.length = fn := htt.len
    clear htt htq hq0
    by_cases hjn : j < fn
    · skip
      have hjn' : (j : Int) < fn := by omega
      have cf := row_cell (H5.out.old HF.out).row (j := j) hjn
      obtain ⟨k, hk⟩ : ∃ k, fs.getD j 0 = k := ⟨_, rfl⟩
      rw [hk] at cf
      have HK := hid hk
      obtain ⟨ra, rn, rc, e1, e2⟩ := HM.out.row (i := j) hjn
      have HE1 := hid e1
      have HE2 := hid e2
      have f1 := H5.out.oldCell HE1.out
      clear e1 e2 hk
      go_wp2_with fail
      refine (tfirst_any _ _).mono ?_
      rintro e w6 ⟨rfl, hsw⟩
      have hsw2 : u4 = w6 := by first | exact hsw | exact hsw.symm
      clear hsw
      subst hsw2
      obtain ⟨b7, hb7⟩ : ∃ xx', tFirst k = xx' := ⟨_, rfl⟩
      rw [hb7]
      have HNb7 := hid hb7
      clear hb7
      cases b7 with
      | true =>
        go_wp2_with fail
        refine (quantize_any _ _ _ (L.getD j []) s _ (H5.out.oldU HE2.out) (HM.out.all j) (HT.out.below (by first | exact H5.out.below' | exact H5.out.below) HB0.out)).mono ?_
        rintro e w8 ⟨v10, rfl, ho, hb⟩
        obtain ⟨c11, hc11⟩ : ∃ xx', qCode (nats (L.getD j [])) s = xx' := ⟨_, rfl⟩
        rw [hc11]
        have HNc11 := hid hc11
        clear hc11
        obtain ⟨wl, hwl⟩ : ∃ wl, qList (nats (L.getD j [])) s = wl := ⟨_, rfl⟩
        rw [hwl] at ho
        have HNL := hid hwl
        clear hwl
        have H9 := hid (H5.out.grow hb ho)
        obtain ⟨v10a, v10c, rfl, _⟩ := ho.slc
        clear ho hb
        by_cases c12 : (c11 : Int) = 0
        · obtain ⟨c12c, c12d⟩ : (c11 : Int) ≤ 0 ∧ (0 : Int) ≤ c11 := by omega
          have c12a : ((c11 : Int) == (0)) = true := by simpa using c12
          have c12b : ((c11 : Int) != (0)) = false := by simpa using c12
          have c12h := hid c12
          clear c12
          obtain ⟨_, _, z13, z14, z15, z16⟩ := H9.out.tapCell 1 rfl (j := j) (by omega)
          go_upto_region 13 with fail
          clear z13 z14 z15 z16
          have H17 := hid (show St B W [.own (.slice v10a wl.length v10c) wl, .arr (31) 2 (.slice (some ⟨DT, 0, none⟩) fn fn) fn (((tapV tp).set (j * 2) (.int .i64 k)).set (j * 2 + 1) (.slice v10a wl.length v10c))] Rs ((w8.setCell ⟨DT, j * 2, none⟩ (.int .i64 k)).setCell ⟨DT, j * 2 + 1, none⟩ (.slice v10a wl.length v10c)) from ((H9.out.storeTap 1 rfl (j * 2) (.int .i64 k)).storeTap 1 rfl (j * 2 + 1) (.slice v10a wl.length v10c)))
          first | refine gen_code H17.out ?_ | refine gen_list H17.out ?_ | refine gen_calls H17.out ?_
          intro w18 hG
          clear H17
          have H17 := hid hG
          clear hG
          go_wp2_with fail
          have H0 := hid (show qtOne fs L s j = 0 from by rw [qtOne_q (by rw [HK.out]; exact HNb7.out), HNc11.out]; have := c12h.out; omega)
          have H19 := H17.out.pick (l' := [.own (.slice v10a wl.length v10c) wl, .arr (31) 2 (.slice (some ⟨DT, 0, none⟩) fn fn) fn (((tapV tp).set (j * 2) (.int .i64 k)).set (j * 2 + 1) (.slice v10a wl.length v10c))]) [0, 1] rfl (by decide)
          have hNW := H19.lay 0 rfl
          have hLY := H19.freeze 0 rfl
          simp only [List.eraseIdx] at hLY
          rw [show ((tapV tp).set (j * 2) (.int .i64 k)).set (j * 2 + 1) (.slice v10a wl.length v10c) = tapV (tp.set j (k, ⟨v10a, wl.length, v10c, wl⟩)) from tapV_set tp j (k, ⟨v10a, wl.length, v10c, wl⟩) (by omega)] at hLY
          go_roundw
          case rel => exact ⟨j + 1, _, _, by omega, HTT.out.next hjn (k := k) (r := ⟨_, _, _, _⟩) (by unfold qtTap; rw [HK.out, HNL.out]), HTQ.out.set hNW j, qt_next HQ0.out H0.out, by go_num, hLY⟩
          case measure => first | (simp [intOf]; omega) | (simp [intOf]; done)
        · have c12a : ((c11 : Int) == (0)) = false := by simpa using c12
          have c12b : ((c11 : Int) != (0)) = true := by simpa using c12
          have c12h := hid c12
          clear c12
          go_wp2_with fail
          have HB3 := hid (qt_bad (s := s) HGD.out (by rw [← HLL.out]; exact hjn) HQ0.out ((qtOne_q (by rw [HK.out]; exact HNb7.out)).trans HNc11.out) (by intro e; have := c12h.out; omega))
          rw [HB3.out, qtT_no (by rw [HB3.out]; exact (by intro e; have := c12h.out; omega))]
          go_ret2
          exact tab_no rfl (by first | exact H9.out.below | exact H9.out.below')
      | false =>
        go_wp2_with fail
        have HB2 := hid (qt_bad (s := s) HGD.out (by rw [← HLL.out]; exact hjn) HQ0.out (qtOne_2 (by rw [HK.out]; exact HNb7.out)) (by decide))
        rw [HB2.out, qtT_no (by rw [HB2.out]; decide)]
        go_ret2
        exact tab_no rfl (by first | exact H5.out.below | exact H5.out.below')
    · skip
      have hjn' : ¬ ((j : Int) < fn) := by omega
      have HJM := hid (show j = fn by omega)
      have HJL := hid (show j = L.length from by rw [← HLL.out]; omega)
      have HB0' := hid (qt_0 (s := s) HGD.out (by rw [← HJL.out]; exact HQ0.out))
      go_wp2_with fail
      rw [HB0'.out]
      go_ret2
      exact ⟨_, rfl, by rw [hB, show qtT fs L s = tapD tp from by unfold qtT; rw [if_pos HB0'.out, ← HLL.out]; rw [HJM.out] at HTT; exact HTT.out.all.symm]; exact H5.out.outT 0 rfl HTQ.out, by first | exact H5.out.below | exact H5.out.below'⟩

set_option maxRecDepth 100000 in
set_option maxHeartbeats 6400000 in
theorem rtquant_any (fa : Option Addr) (fn fc : Nat) (fs : List Int) (la : Option Addr) (m lc : Nat) (L : List (List Int)) (s : Int) (W : World) (hf : Slc W fa fn fc fs) (hl : MatU W la m lc L) : Calls Tryd.prog 24 #[.slice fa fn fc, .slice la m lc, .int .i64 s] W (TabPost (qtT fs L s) (qtCode fs L s) W) := by
  have HFL := hid hf.len
  have HLL := hid hl.len
  have nf : (fn : Int) ≤ 9223372036854775807 := by have := hf.nc; have := hf.cap; omega
  have nl : (m : Int) ≤ 9223372036854775807 := by have := hl.nc; have := hl.cap; omega
  by_cases hg : fn ≠ m ∨ m = 0 ∨ 128 < m
  · have HC := hid (qt_8 (s := s) (show qtBad fs L from by unfold qtBad; rw [HFL.out, ← HLL.out]; exact hg))
    rw [HC.out, qtT_no (by rw [HC.out]; decide)]
    have k1' : fn = m → decide (1 ≤ (m : Int) ∧ (m : Int) ≤ 128) = false := by intro h; simp; omega
    by_cases h1 : fn = m
    · have k2 := k1' h1
      subst h1
      have k3 : ((fn : Int) != (fn : Int)) = false := by simp
      rcases (show fn = 0 ∨ 128 < fn by omega) with h0 | h0
      · have k4 : ((fn : Int) == 0) = true := by simp; omega
        go_enter Tryd.func24, Tryd.ntmps24
        go_wp2_with (go_at_call 26; refine (rside_any _ _).mono ?_; rintro e w' ⟨rfl, rfl⟩)
        all_goals (go_ret2; exact tab_no rfl (Below.refl _ _))
      · have k4 : ((fn : Int) == 0) = false := by simp; omega
        have k5 : (128 : Int) < fn := by omega
        go_enter Tryd.func24, Tryd.ntmps24
        go_wp2_with (go_at_call 26; refine (rside_any _ _).mono ?_; rintro e w' ⟨rfl, rfl⟩)
        all_goals (go_ret2; exact tab_no rfl (Below.refl _ _))
    · have k3 : ((fn : Int) != (m : Int)) = true := by simp; omega
      have k4 : (fn != m) = true := by simp; omega
      go_enter Tryd.func24, Tryd.ntmps24
      go_wp2_with (go_at_call 26; refine (rside_any _ _).mono ?_; rintro e w' ⟨rfl, rfl⟩)
      all_goals (go_ret2; exact tab_no rfl (Below.refl _ _))
  obtain ⟨rfl, m1, m2⟩ : fn = m ∧ 1 ≤ m ∧ m ≤ 128 := by omega
  have HGD := hid (show ¬ qtBad fs L from by unfold qtBad; rw [HFL.out, ← HLL.out]; exact hg)
  clear hg
  have k3 : ((fn : Int) != (fn : Int)) = false := by simp
  have k4 : ((fn : Int) == 0) = false := by simp; omega
  obtain ⟨fb, fo, hfa⟩ := row_at hf.row (by omega)
  subst hfa
  obtain ⟨lb, lo, hla⟩ := hl.at (by omega)
  subst hla
  have HF := hid hf
  have HM := hid hl
  obtain ⟨B, hB⟩ : ∃ B, W.heap.size = B := ⟨_, rfl⟩
  have HI0 := hid (St.init hB)
  clear hf hl
  go_enter Tryd.func24, Tryd.ntmps24
  go_wp2_with fail
  refine (rside_any _ _).mono ?_
  rintro e w20 ⟨rfl, hsw⟩
  have hsw2 : W = w20 := by first | exact hsw | exact hsw.symm
  clear hsw
  subst hsw2
  rw [show decide (1 ≤ (fn : Int) ∧ (fn : Int) ≤ 128) = true by simp; omega]
  go_wp2_with fail
  have H21 := hid (HI0.out.arrNilE 31 2)
  go_loopw [9, 8] (fun i v wr => ∃ (j : Nat) (ga : Option Addr) (gc : Nat) (tp : List (Int × Ro)) (Rs : List Ro), j ≤ fn ∧ tp.length = j ∧ tapD tp = (List.range j).map (qtTap fs L s) ∧ TQ B Rs tp ∧ qtTo fs L s j = 0 ∧ i = .int .i64 j ∧ v = .slice ga tp.length gc ∧ St B W [.arr (31) 2 (.slice ga tp.length gc) (tp.length) (tapV tp)] Rs wr) (fun i _ _ => fn - (intOf i).toNat)
  case atStart => exact ⟨0, _, _, [], _, by omega, rfl, rfl, TQ.nil _ _, rfl, rfl, rfl, H21.out⟩
  case round =>
    obtain ⟨j, ga, gc, tp, Rs, hj, htl, htd, htq, hq0, rfl, rfl, hst⟩ := hrel
    obtain ⟨u22, rfl⟩ : ∃ u22 : World, u22 = wr := ⟨_, rfl⟩
    have H23 := hid hst
    clear hst
    have HTD := hid htd
    have HTQ := hid htq
    have HQ0 := hid hq0
    have htl2 : tp.length ≤ 1000000 := by omega
    have HTL := hid htl
    clear htd htq htl hq0
    by_cases hjn : j < fn
    · skip
      have hjn' : (j : Int) < fn := by omega
      have cf := row_cell (H23.out.old HF.out).row (j := j) hjn
      obtain ⟨k, hk⟩ : ∃ k, fs.getD j 0 = k := ⟨_, rfl⟩
      rw [hk] at cf
      have HK := hid hk
      obtain ⟨ra, rn, rc, e1, e2⟩ := HM.out.row (i := j) hjn
      have HE1 := hid e1
      have HE2 := hid e2
      have f1 := H23.out.oldCell HE1.out
      clear e1 e2 hk
      go_wp2_with fail
      refine (rfirst_any _ _).mono ?_
      rintro e w24 ⟨rfl, hsw⟩
      have hsw2 : u22 = w24 := by first | exact hsw | exact hsw.symm
      clear hsw
      subst hsw2
      obtain ⟨b25, hb25⟩ : ∃ xx', tFirst k = xx' := ⟨_, rfl⟩
      rw [hb25]
      have HNb25 := hid hb25
      clear hb25
      cases b25 with
      | true =>
        go_wp2_with fail
        refine (rquantize_any _ _ _ (L.getD j []) s _ (H23.out.oldU HE2.out) (HM.out.all j)).mono ?_
        rintro e w26 ⟨v28, rfl, ho, hb⟩
        obtain ⟨c29, hc29⟩ : ∃ xx', qCode (nats (L.getD j [])) s = xx' := ⟨_, rfl⟩
        rw [hc29]
        have HNc29 := hid hc29
        clear hc29
        obtain ⟨wl, hwl⟩ : ∃ wl, qList (nats (L.getD j [])) s = wl := ⟨_, rfl⟩
        rw [hwl] at ho
        have HNL := hid hwl
        clear hwl
        have H27 := hid (H23.out.grow hb ho)
        obtain ⟨v28a, v28c, rfl, _⟩ := ho.slc
        clear ho hb
        by_cases c30 : (c29 : Int) = 0
        · obtain ⟨c30c, c30d⟩ : (c29 : Int) ≤ 0 ∧ (0 : Int) ≤ c29 := by omega
          have c30a : ((c29 : Int) == (0)) = true := by simpa using c30
          have c30b : ((c29 : Int) != (0)) = false := by simpa using c30
          have c30h := hid c30
          clear c30
          go_upto_region 12 with fail
          have cf31 := row_cell (H27.out.old HF.out).row (j := j) hjn
          rw [HK.out] at cf31
          obtain ⟨D32, hD32⟩ : ∃ D, w26.heap.size = D := ⟨_, rfl⟩
          have H33 := hid (show St B W [.cells D32 #[.int .i64 k, .slice v28a wl.length v28c] 31, .own (.slice v28a wl.length v28c) wl, .arr (31) 2 (.slice ga tp.length gc) (tp.length) (tapV tp)] Rs (w26.alloc (.cells #[.int .i64 k, .slice v28a wl.length v28c] 31)) from (H27.out.alloc #[.int .i64 k, .slice v28a wl.length v28c] 31 hD32))
          go_upto_region 6 with (at_builtin; refine append_vals rfl _ _ 23 31 2 32 (.agg #[.int .i64 0, .slice none 0 0]) Tryd.underlying23 info_tap rfl (by decide) (by decide) rfl B _ _ _ D32 1 1 [.int .i64 k, .slice v28a wl.length v28c] rfl rfl rfl (H33.out.arrOfT 2 rfl) (lit_news H33.out 0 [.int .i64 k, .slice v28a wl.length v28c] rfl) (by intro u hu; simp at hu; rcases hu with rfl | rfl <;> rfl) (by omega) H33.out.size ?_; intro v35 w36 ho hg hv; have H34 := hid (H33.out.appendE 2 rfl ho hg hv); clear ho hg hv)
          clear H33
          obtain ⟨g37, c38, hva⟩ := arr_posT (H34.out.arrOfT 2 rfl) (by omega)
          subst hva
          clear hD32
          go_wp2_with fail
          have H0 := hid (show qtOne fs L s j = 0 from by rw [qtOne_q (by rw [HK.out]; exact HNb25.out), HNc29.out]; have := c30h.out; omega)
          have H39 := H34.out.pick (l' := [.own (.slice v28a wl.length v28c) wl, .arr (31) 2 (.slice (some ⟨g37, 0, none⟩) (tp.length + 1) c38) (tp.length + 1) (tapV tp ++ [.int .i64 k, .slice v28a wl.length v28c])]) [1, 2] rfl (by decide)
          have hNW := H39.lay 0 rfl
          have hLY := H39.freeze 0 rfl
          simp only [List.eraseIdx] at hLY
          rw [show tapV tp ++ [.int .i64 k, .slice v28a wl.length v28c] = tapV (tp ++ [(k, ⟨v28a, wl.length, v28c, wl⟩)]) from by rw [tapV_app]; rfl] at hLY
          go_roundw
          case rel => exact ⟨j + 1, _, _, tp ++ [(k, _)], _, by omega, by rw [List.length_append, HTL.out]; rfl, by rw [tapD_app, HTD.out, range_snoc]; unfold qtTap; rw [HK.out, HNL.out]; rfl, HTQ.out.snoc hNW, qt_next HQ0.out H0.out, by go_num, by rw [List.length_append]; rfl, by rw [List.length_append]; exact hLY⟩
          case measure => first | (simp [intOf]; omega) | (simp [intOf]; done)
        · have c30a : ((c29 : Int) == (0)) = false := by simpa using c30
          have c30b : ((c29 : Int) != (0)) = true := by simpa using c30
          have c30h := hid c30
          clear c30
          go_wp2_with fail
          have HB3 := hid (qt_bad (s := s) HGD.out (by rw [← HLL.out]; exact hjn) HQ0.out ((qtOne_q (by rw [HK.out]; exact HNb25.out)).trans HNc29.out) (by intro e; have := c30h.out; omega))
          rw [HB3.out, qtT_no (by rw [HB3.out]; exact (by intro e; have := c30h.out; omega))]
          go_ret2
          exact tab_no rfl (by first | exact H27.out.below | exact H27.out.below')
      | false =>
        go_wp2_with fail
        have HB2 := hid (qt_bad (s := s) HGD.out (by rw [← HLL.out]; exact hjn) HQ0.out (qtOne_2 (by rw [HK.out]; exact HNb25.out)) (by decide))
        rw [HB2.out, qtT_no (by rw [HB2.out]; decide)]
        go_ret2
        exact tab_no rfl (by first | exact H23.out.below | exact H23.out.below')
    · skip
      have hjn' : ¬ ((j : Int) < fn) := by omega
      have HJM := hid (show j = fn by omega)
      have HJL := hid (show j = L.length from by rw [← HLL.out]; omega)
      have HB0' := hid (qt_0 (s := s) HGD.out (by rw [← HJL.out]; exact HQ0.out))
      go_wp2_with fail
      rw [HB0'.out]
      go_ret2
      exact ⟨_, rfl, by rw [hB, show qtT fs L s = tapD tp from by unfold qtT; rw [if_pos HB0'.out, HTD.out, HJL.out]]; exact H23.out.outT 0 rfl HTQ.out, by first | exact H23.out.below | exact H23.out.below'⟩
end Go.Proofs.YtgpblcddebhphaaDoor
