/-
  Contracts: box tables, in the program and in the reference.
-/
import Derived.Test.YtaefdkinpaonkaaTab2
import Derived.Test.YtaefdkinpaonkaaTab3
import Derived.Test.YtaefdkinpaonkaaBoxPlain
namespace Go.Proofs.Ytaefdkinpaonkaa
open Go.RowKit
attribute [local go_sem ↓] Go.wp_at_zero Go.wp_at_succ
set_option linter.unusedVariables false
set_option linter.unusedSimpArgs false

theorem bx_in {n m s : Int} {i : Nat} (hn : 1 ≤ n ∧ n ≤ 128) (hm : 1 ≤ m ∧ m ≤ 128) (hi : (i : Int) < m) (hs : 0 ≤ s ∧ s ≤ 14) (h8 : bxN n m i ≤ 8) : DvIn (2 ^ s.toNat) n (bxLens n m i (bxN n m i)) := by
  obtain ⟨b1, b2⟩ := sh_bd hs
  have hp := bxN_pos hn hm hi
  refine ⟨by omega, b2, hn.1, hn.2, by rw [bxLens_len]; omega, by rw [bxLens_len]; omega, fun d => ?_⟩
  unfold bxLens
  by_cases hd : d < bxN n m i
  · rw [rangeD _ _ hd]; have := bxL_bd hn hm hi hd; omega
  · rw [List.getD_eq_getElem?_getD, List.getElem?_eq_none (by simp; omega)]; simp

set_option maxRecDepth 100000 in
set_option maxHeartbeats 6400000 in
theorem box_any (n m s : Int) (W : World) : Calls Try.prog 23 #[.int .i64 n, .int .i64 m, .int .i64 s] W (TabPost (bxT n m s) (bxCode n m s) W) := by
  by_cases hc : n < 1 ∨ 128 < n ∨ m < 1 ∨ 128 < m
  · have HC := hid (tg_8 (s := s) hc)
    rw [bx_tg HC.out (by decide), bxT_no (by rw [bx_tg HC.out (by decide)]; decide)]
    by_cases k1 : 1 ≤ n ∧ n ≤ 128
    · have k1' : decide (1 ≤ n ∧ n ≤ 128) = true := by simp; omega
      have k2' : decide (1 ≤ m ∧ m ≤ 128) = false := by simp; omega
      go_enter Try.func23, Try.ntmps23
      go_wp2_with (go_at_call 57; refine (targs_any _ _ _ _).mono ?_; rintro e w' ⟨rfl, rfl⟩; rw [HC.out])
      all_goals (go_ret2; exact tab_no rfl (Below.refl _ _))
    · have k1' : decide (1 ≤ n ∧ n ≤ 128) = false := by simp; omega
      go_enter Try.func23, Try.ntmps23
      go_wp2_with (go_at_call 57; refine (targs_any _ _ _ _).mono ?_; rintro e w' ⟨rfl, rfl⟩; rw [HC.out])
      all_goals (go_ret2; exact tab_no rfl (Below.refl _ _))
  have kn' : decide (1 ≤ n ∧ n ≤ 128) = true := by simp; omega
  have km' : decide (1 ≤ m ∧ m ≤ 128) = true := by simp; omega
  by_cases hs : s < 0 ∨ 14 < s
  · have HC := hid (tg_2 hc hs)
    rw [bx_tg HC.out (by decide), bxT_no (by rw [bx_tg HC.out (by decide)]; decide)]
    rcases hs with hs | hs
    all_goals
      go_enter Try.func23, Try.ntmps23
      go_wp2_with (go_at_call 57; refine (targs_any _ _ _ _).mono ?_; rintro e w' ⟨rfl, rfl⟩; rw [HC.out])
      all_goals (go_ret2; exact tab_no rfl (Below.refl _ _))
  have HC := hid (tg_0 hc hs)
  obtain ⟨n1, n2, m1, m2⟩ : 1 ≤ n ∧ n ≤ 128 ∧ 1 ≤ m ∧ m ≤ 128 := by omega
  obtain ⟨s1, s2⟩ : 0 ≤ s ∧ s ≤ 14 := by omega
  clear hc hs kn' km'
  obtain ⟨M, rfl⟩ : ∃ M : Nat, m = M := ⟨m.toNat, by omega⟩
  obtain ⟨S, hS⟩ : ∃ S, (2 : Int) ^ s.toNat = S := ⟨_, rfl⟩
  obtain ⟨S1, S2⟩ : 1 ≤ S ∧ S ≤ 16384 := by rw [← hS]; exact sh_bd ⟨s1, s2⟩
  have HS := hid hS
  have sw : IntKind.i64.wrap S = S := IntWalk.i64_in _ (by omega)
  obtain ⟨B, hB⟩ : ∃ B, W.heap.size = B := ⟨_, rfl⟩
  have HI0 := hid (St.init hB)
  go_enter Try.func23, Try.ntmps23
  go_wp2_with fail
  refine (targs_any _ _ _ _).mono ?_
  rintro e w1 ⟨rfl, hsw⟩
  have hsw2 : W = w1 := by first | exact hsw | exact hsw.symm
  clear hsw
  subst hsw2
  rw [HC.out]
  obtain ⟨DT, hDT⟩ : ∃ L, W.heap.size = L := ⟨_, rfl⟩
  go_upto_region 5 with (at_make; refine make_taps rfl _ _ rfl DT _ _ M rfl rfl (by rfl) (by rfl) (by omega) (by omega) ?_; intro w2 ho hb; rw [hDT] at ho hb ⊢; have H3 := hid (St.nilRo (HI0.out.growE (by rw [hDT]; exact hb) (by rw [hDT]; exact ho))); clear ho hb hDT)
  go_wp2_with fail
  go_loopw [27] (fun i wr => ∃ (j : Nat) (tp : List (Int × Ro)) (Rs : List Ro), j ≤ M ∧ TabTo (bxTap n M s) tp M j ∧ TQ B Rs tp ∧ bxBad n M j = false ∧ i = .int .i64 j ∧ St B W [.arr (32) 2 (.slice (some ⟨DT, 0, none⟩) M M) M (tapV tp)] Rs wr) (fun i _ => M - (intOf i).toNat)
  case atStart => exact ⟨0, _, _, by omega, TabTo.zero _ _, TQ.nils _ _ _, rfl, rfl, H3.out⟩
  case round =>
    obtain ⟨j, tp, Rs, hj, htt, htq, hbb, rfl, hst⟩ := hrel
    obtain ⟨u5, rfl⟩ : ∃ u5 : World, u5 = wr := ⟨_, rfl⟩
    have H6 := hid hst
    clear hst
    have HTT := hid htt
    have HTQ := hid htq
    have HBB := hid hbb
    have htl : tp.length = M := htt.len
    clear htt htq hbb
    by_cases hjn : j < M
    · skip
      have hjn' : (j : Int) < M := by omega
      obtain ⟨f1, f2, f3, f4, f5, f6, f7⟩ := bx_facts (n := n) (m := (M : Int)) (i := j) ⟨n1, n2⟩ ⟨m1, m2⟩ (by omega)
      have HIN := hid (fun h8 => bx_in (n := n) (m := (M : Int)) (s := s) (i := j) ⟨n1, n2⟩ ⟨m1, m2⟩ (by omega) ⟨s1, s2⟩ h8)
      have HSM := hid (bx_sum (n := n) (m := (M : Int)) (i := j) ⟨n1, n2⟩ ⟨m1, m2⟩ (by omega))
      have HLT := hid (fun d => bx_lt (n := n) (m := (M : Int)) (i := j) (d := d) ⟨n1, n2⟩ ⟨m1, m2⟩ (by omega))
      have HBX := hid (show ∀ d, bxL n (M : Int) j d = mnI (((j : Int) + 1) * n) ((bxK n M j + (d : Int) + 1) * M) - mxI ((j : Int) * n) ((bxK n M j + (d : Int)) * M) from fun d => rfl)
      have HTP := hid (show bxTap n (M : Int) s j = (bxK n M j, dvW (2 ^ s.toNat) n (bxLens n M j (bxN n M j))) from rfl)
      have HKD := hid (show bxK n (M : Int) j = (j : Int) * n / M from rfl)
      have hN := bxN_le (n := n) (m := (M : Int)) (i := j) ⟨n1, n2⟩ ⟨m1, m2⟩ (by omega)
      have HNine := hid (fun h8 => bx_9 (n := n) (m := (M : Int)) (s := s) HC.out (j := j) (by omega) h8)
      have hBB := hid (fun h h2 => bxBad_next (n := n) (m := (M : Int)) (j := j) h h2)
      obtain ⟨K, hK⟩ : ∃ K, bxK n (M : Int) j = K := ⟨_, rfl⟩
      obtain ⟨BN, hBN⟩ : ∃ K, bxN n (M : Int) j = K := ⟨_, rfl⟩
      obtain ⟨A, hA⟩ : ∃ K, (j : Int) * n = K := ⟨_, rfl⟩
      obtain ⟨E, hE⟩ : ∃ K, ((j : Int) + 1) * n = K := ⟨_, rfl⟩
      rw [hA] at f1 f2 f3 f6 f7 HBX HKD
      rw [hE] at f3 HLT HBX
      rw [hK] at f4 f5 f6 f7 HLT HBX HTP HKD
      rw [hBN] at HIN HSM HLT HTP hN HNine hBB
      rw [hS] at HIN HTP
      clear hK hBN
      obtain ⟨E1, E2, E3, E4⟩ : 0 ≤ E ∧ E ≤ 16384 ∧ E ≤ A + n ∧ A + n ≤ E := by omega
      clear f3
      have tA : Int.tdiv A (M : Int) = K := by rw [Int.tdiv_eq_ediv_of_nonneg f1]; exact HKD.out.symm
      have tA2 : A / (M : Int) = K := HKD.out.symm
      have dm1 : ¬ (M = 0) := by omega
      have dm0 : ¬ ((M : Int) = 0) := by omega
      have wA : IntKind.i64.wrap A = A := IntWalk.i64_in _ (by omega)
      have wE : IntKind.i64.wrap E = E := IntWalk.i64_in _ (by omega)
      have wK : IntKind.i64.wrap K = K := IntWalk.i64_in _ (by omega)
      go_wp2_with fail
      have H7 := hid (show St B W [.own (.slice none 0 0) ([]), .arr (32) 2 (.slice (some ⟨DT, 0, none⟩) M M) M (tapV tp)] Rs u5 from H6.out.grow (Below.refl _ _) (Own.nil _ _))
      go_loopw [15, 14] (fun i v wr => ∃ (d : Nat) (pa : Option Addr) (pc : Nat) (pl : List Int), d ≤ BN ∧ pl = bxLens n M j d ∧ pl.length = d ∧ i = .int .i64 (K + (d : Int)) ∧ v = .slice pa pl.length pc ∧ St B W [.own (.slice pa pl.length pc) pl, .arr (32) 2 (.slice (some ⟨DT, 0, none⟩) M M) M (tapV tp)] Rs wr) (fun i _ _ => (K + (BN : Int) - intOf i).toNat)
      case atStart => exact ⟨0, _, _, [], by omega, rfl, rfl, by simp, rfl, H7.out.pick [0, 1] rfl (by decide)⟩
      case round =>
        obtain ⟨d, pa, pc, pl, hd, hpl, hpn, rfl, rfl, hst⟩ := hrel
        obtain ⟨u8, rfl⟩ : ∃ u8 : World, u8 = wr := ⟨_, rfl⟩
        have H9 := hid hst
        clear hst
        have HPL := hid hpl
        have HPN := hid hpn
        have hpn2 : pl.length ≤ 1000000 := by omega
        clear hpl hpn
        by_cases hdn : d < BN
        · skip
          obtain ⟨J0, hJ0⟩ : ∃ x, (K + (d : Int)) * (M : Int) = x := ⟨_, rfl⟩
          have hjE : J0 < E := by rw [← hJ0]; exact (HLT.out d).2 hdn
          have hJ1 : (K + (d : Int) + 1) * (M : Int) = J0 + M := by rw [Int.add_mul, Int.one_mul, hJ0]
          have HJ0 := hid hJ0
          have HJ1 := hid hJ1
          have j0 : 0 ≤ J0 := by rw [← hJ0]; exact Int.mul_nonneg (by omega) (by omega)
          have wJ : IntKind.i64.wrap J0 = J0 := IntWalk.i64_in _ (by omega)
          obtain ⟨D12, hD12⟩ : ∃ D, u8.heap.size = D := ⟨_, rfl⟩
          obtain ⟨m10, hm10⟩ : ∃ zz : Int, (if (J0 + (M : Int)) < E then J0 + (M : Int) else E) = zz := ⟨_, rfl⟩
          obtain ⟨m10a, m10b⟩ : 0 ≤ m10 ∧ m10 ≤ 40000 := by rw [← hm10]; split <;> omega
          obtain ⟨m11, hm11⟩ : ∃ zz : Int, (if A < J0 then J0 else A) = zz := ⟨_, rfl⟩
          obtain ⟨m11a, m11b⟩ : 0 ≤ m11 ∧ m11 ≤ 40000 := by rw [← hm11]; split <;> omega
          have H13 := hid (show St B W [.cells D12 #[.int .i64 (m10 - m11)] 3, .own (.slice pa pl.length pc) pl, .arr (32) 2 (.slice (some ⟨DT, 0, none⟩) M M) M (tapV tp)] Rs (u8.alloc (.cells #[.int .i64 (m10 - m11)] 3)) from (H9.out.alloc #[.int .i64 (m10 - m11)] 3 hD12))
          go_upto_region 13 with (at_builtin; refine append_int rfl _ _ rfl B _ pl (m10 - m11) D12 1 rfl rfl (H13.out.own 1 rfl) (H13.out.cell 0 rfl 0 rfl) (by omega) H13.out.size ?_; intro v16 w17 ho hg hv; have H14 := hid (H13.out.append 1 rfl ho hg hv); clear ho hg hv)
          have HNm10 := hid hm10
          clear hm10
          have HNm11 := hid hm11
          clear hm11
          clear H13
          obtain ⟨v16a, v16c, hva, _⟩ := (H14.out.own 1 rfl).slc
          subst hva
          have H15 := hid (show St B W [.own (.slice v16a ((pl ++ [m10 - m11]).length) v16c) (pl ++ [m10 - m11]), .arr (32) 2 (.slice (some ⟨DT, 0, none⟩) M M) M (tapV tp)] Rs w17 from H14.out.pick [1, 2] rfl (by decide))
          clear hD12
          go_wp2_with fail
          go_roundw
          case rel => exact ⟨d + 1, _, _, _, by omega, by rw [← bxLens_next, ← HPL.out, HBX.out, HJ1.out, HJ0.out]; have h1 := HNm10.out; have h2 := HNm11.out; unfold mnI mxI; rw [h1, h2], by rw [List.length_append, HPN.out]; rfl, by first | rfl | (congr 1; push_cast; omega), rfl, H15.out.pick [0, 1] rfl (by decide)⟩
          case measure => first | (simp [intOf]; omega) | (simp [intOf]; done)
        · skip
          obtain ⟨J0, hJ0⟩ : ∃ x, (K + (d : Int)) * (M : Int) = x := ⟨_, rfl⟩
          have hjE : ¬ (J0 < E) := by rw [← hJ0]; exact fun h => hdn ((HLT.out d).1 h)
          have j0 : 0 ≤ J0 := by rw [← hJ0]; exact Int.mul_nonneg (by omega) (by omega)
          have j9 : J0 ≤ 4640768 := by rw [← hJ0]; have := Int.mul_le_mul (a := K + (d : Int)) (b := (M : Int)) (c := 36256) (d := 128) (by omega) (by omega) (by omega) (by omega); omega
          have wJ : IntKind.i64.wrap J0 = J0 := IntWalk.i64_in _ (by omega)
          obtain rfl : d = BN := by omega
          by_cases h8 : 8 < d
          · skip
            have h8' : (8 : Int) < pl.length := by rw [HPN.out]; omega
            have HB9 := hid (HNine.out h8)
            go_wp2_with fail
            rw [HB9.out, bxT_no (by rw [HB9.out]; decide)]
            go_ret2
            exact tab_no rfl (by first | exact H9.out.below | exact H9.out.below')
          · skip
            have h8' : ¬ ((8 : Int) < pl.length) := by rw [HPN.out]; omega
            go_wp2_with fail
            have hin := HIN.out (by omega)
            have hsm := HSM.out
            rw [← HPL.out] at hin hsm
            refine (divide_any _ _ _ _ _ pl _ (H9.out.slc 0 rfl) hin).mono ?_
            rintro e w18 ⟨v20, rfl, ho, hb⟩
            rw [HPL.out] at ho
            have H19 := hid (H9.out.grow hb ho)
            obtain ⟨v20a, v20c, rfl, _⟩ := ho.slc
            clear ho hb hin hsm
            obtain ⟨wl, hwl⟩ : ∃ wl, dvW S n (bxLens n M j d) = wl := ⟨_, rfl⟩
            rw [hwl] at H19 HTP
            skip
            obtain ⟨_, _, z21, z22, z23, z24⟩ := H19.out.tapCell 2 rfl (j := j) (by omega)
            go_upto_region 18 with fail
            clear z21 z22 z23 z24
            have H25 := hid (show St B W [.own (.slice v20a wl.length v20c) wl, .own (.slice pa pl.length pc) pl, .arr (32) 2 (.slice (some ⟨DT, 0, none⟩) M M) M (((tapV tp).set (j * 2) (.int .i64 K)).set (j * 2 + 1) (.slice v20a wl.length v20c))] Rs ((w18.setCell ⟨DT, j * 2, none⟩ (.int .i64 K)).setCell ⟨DT, j * 2 + 1, none⟩ (.slice v20a wl.length v20c)) from ((H19.out.storeTap 2 rfl (j * 2) (.int .i64 K)).storeTap 2 rfl (j * 2 + 1) (.slice v20a wl.length v20c)))
            first | refine gen_code H25.out ?_ | refine gen_list H25.out ?_ | refine gen_calls H25.out ?_
            intro w26 hG
            clear H25
            have H25 := hid hG
            clear hG
            go_wp2_with fail
            have H27 := H25.out.pick (l' := [.own (.slice v20a wl.length v20c) wl, .arr (32) 2 (.slice (some ⟨DT, 0, none⟩) M M) M (((tapV tp).set (j * 2) (.int .i64 K)).set (j * 2 + 1) (.slice v20a wl.length v20c))]) [0, 2] rfl (by decide)
            have hNW := H27.lay 0 rfl
            have hLY := H27.freeze 0 rfl
            simp only [List.eraseIdx] at hLY
            rw [show ((tapV tp).set (j * 2) (.int .i64 K)).set (j * 2 + 1) (.slice v20a wl.length v20c) = tapV (tp.set j (K, ⟨v20a, wl.length, v20c, wl⟩)) from tapV_set tp j (K, ⟨v20a, wl.length, v20c, wl⟩) (by omega)] at hLY
            go_roundw
            case rel => exact ⟨j + 1, _, _, by omega, HTT.out.next hjn (k := K) (r := ⟨_, _, _, _⟩) (by rw [HTP.out]), HTQ.out.set hNW j, hBB.out HBB.out (by omega), by go_num, hLY⟩
            case measure => first | (simp [intOf]; omega) | (simp [intOf]; done)
    · skip
      have hjn' : ¬ ((j : Int) < M) := by omega
      have HJM := hid (show j = M by omega)
      have HB0 := hid (bx_0 (s := s) HC.out (show bxBad n (M : Int) (M : Int).toNat = false from by rw [show (M : Int).toNat = j by omega]; exact HBB.out))
      go_wp2_with fail
      rw [HB0.out]
      go_ret2
      exact ⟨_, rfl, by rw [hB, show bxT n M s = tapD tp from by unfold bxT bxTo; rw [if_pos HB0.out]; rw [HJM.out] at HTT; exact HTT.out.all.symm]; exact H6.out.outT 0 rfl HTQ.out, by first | exact H6.out.below | exact H6.out.below'⟩

set_option maxRecDepth 100000 in
set_option maxHeartbeats 6400000 in
theorem rbox_any (n m s : Int) (W : World) : Calls Try.prog 26 #[.int .i64 n, .int .i64 m, .int .i64 s] W (TabPost (bxT n m s) (bxCode n m s) W) := by
  by_cases hc : n < 1 ∨ 128 < n ∨ m < 1 ∨ 128 < m
  · have HC := hid (tg_8 (s := s) hc)
    rw [bx_tg HC.out (by decide), bxT_no (by rw [bx_tg HC.out (by decide)]; decide)]
    by_cases k1 : 1 ≤ n ∧ n ≤ 128
    · have k1' : decide (1 ≤ n ∧ n ≤ 128) = true := by simp; omega
      have k2' : decide (1 ≤ m ∧ m ≤ 128) = false := by simp; omega
      go_enter Try.func26, Try.ntmps26
      go_wp2_with (go_at_call 59; refine (r8side_any _ _).mono ?_; rintro e w' ⟨rfl, rfl⟩)
      all_goals (go_ret2; exact tab_no rfl (Below.refl _ _))
    · have k1' : decide (1 ≤ n ∧ n ≤ 128) = false := by simp; omega
      go_enter Try.func26, Try.ntmps26
      go_wp2_with (go_at_call 59; refine (r8side_any _ _).mono ?_; rintro e w' ⟨rfl, rfl⟩)
      all_goals (go_ret2; exact tab_no rfl (Below.refl _ _))
  have kn' : decide (1 ≤ n ∧ n ≤ 128) = true := by simp; omega
  have km' : decide (1 ≤ m ∧ m ≤ 128) = true := by simp; omega
  by_cases hs : s < 0 ∨ 14 < s
  · have HC := hid (tg_2 hc hs)
    rw [bx_tg HC.out (by decide), bxT_no (by rw [bx_tg HC.out (by decide)]; decide)]
    rcases hs with hs | hs
    all_goals
      go_enter Try.func26, Try.ntmps26
      go_wp2_with (go_at_call 59; refine (r8side_any _ _).mono ?_; rintro e w' ⟨rfl, rfl⟩)
      all_goals (go_ret2; exact tab_no rfl (Below.refl _ _))
  have HC := hid (tg_0 hc hs)
  obtain ⟨n1, n2, m1, m2⟩ : 1 ≤ n ∧ n ≤ 128 ∧ 1 ≤ m ∧ m ≤ 128 := by omega
  obtain ⟨s1, s2⟩ : 0 ≤ s ∧ s ≤ 14 := by omega
  clear hc hs kn' km'
  obtain ⟨M, rfl⟩ : ∃ M : Nat, m = M := ⟨m.toNat, by omega⟩
  obtain ⟨S, hS⟩ : ∃ S, (2 : Int) ^ s.toNat = S := ⟨_, rfl⟩
  obtain ⟨S1, S2⟩ : 1 ≤ S ∧ S ≤ 16384 := by rw [← hS]; exact sh_bd ⟨s1, s2⟩
  have HS := hid hS
  have sw : IntKind.i64.wrap S = S := IntWalk.i64_in _ (by omega)
  obtain ⟨B, hB⟩ : ∃ B, W.heap.size = B := ⟨_, rfl⟩
  have HI0 := hid (St.init hB)
  go_enter Try.func26, Try.ntmps26
  go_wp2_with fail
  refine (r8side_any _ _).mono ?_
  rintro e w28 ⟨rfl, hsw⟩
  have hsw2 : W = w28 := by first | exact hsw | exact hsw.symm
  clear hsw
  subst hsw2
  rw [show decide (1 ≤ (n : Int) ∧ (n : Int) ≤ 128) = true by simp; omega]
  go_wp2_with fail
  refine (r8side_any _ _).mono ?_
  rintro e w29 ⟨rfl, hsw⟩
  have hsw2 : W = w29 := by first | exact hsw | exact hsw.symm
  clear hsw
  subst hsw2
  rw [show decide (1 ≤ ((M : Int) : Int) ∧ ((M : Int) : Int) ≤ 128) = true by simp; omega]
  go_wp2_with fail
  have H30 := hid (HI0.out.arrNilE 32 2)
  go_loopw [9, 8] (fun i v wr => ∃ (j : Nat) (ga : Option Addr) (gc : Nat) (tp : List (Int × Ro)) (Rs : List Ro), j ≤ M ∧ tp.length = j ∧ tapD tp = bxTo n M s j ∧ TQ B Rs tp ∧ bxBad n M j = false ∧ i = .int .i64 j ∧ v = .slice ga tp.length gc ∧ St B W [.arr (32) 2 (.slice ga tp.length gc) (tp.length) (tapV tp)] Rs wr) (fun i _ _ => M - (intOf i).toNat)
  case atStart => exact ⟨0, _, _, [], _, by omega, rfl, rfl, TQ.nil _ _, rfl, rfl, rfl, H30.out⟩
  case round =>
    obtain ⟨j, ga, gc, tp, Rs, hj, htl, htd, htq, hbb, rfl, rfl, hst⟩ := hrel
    obtain ⟨u31, rfl⟩ : ∃ u31 : World, u31 = wr := ⟨_, rfl⟩
    have H32 := hid hst
    clear hst
    have HTD := hid htd
    have HTQ := hid htq
    have HBB := hid hbb
    have htl2 : tp.length ≤ 1000000 := by omega
    have HTL := hid htl
    clear htd htq htl hbb
    by_cases hjn : j < M
    · skip
      have hjn' : (j : Int) < M := by omega
      obtain ⟨f1, f2, f3, f4, f5, f6, f7⟩ := bx_facts (n := n) (m := (M : Int)) (i := j) ⟨n1, n2⟩ ⟨m1, m2⟩ (by omega)
      have HIN := hid (fun h8 => bx_in (n := n) (m := (M : Int)) (s := s) (i := j) ⟨n1, n2⟩ ⟨m1, m2⟩ (by omega) ⟨s1, s2⟩ h8)
      have HSM := hid (bx_sum (n := n) (m := (M : Int)) (i := j) ⟨n1, n2⟩ ⟨m1, m2⟩ (by omega))
      have HLT := hid (fun d => bx_lt (n := n) (m := (M : Int)) (i := j) (d := d) ⟨n1, n2⟩ ⟨m1, m2⟩ (by omega))
      have HBX := hid (show ∀ d, bxL n (M : Int) j d = mnI (((j : Int) + 1) * n) ((bxK n M j + (d : Int) + 1) * M) - mxI ((j : Int) * n) ((bxK n M j + (d : Int)) * M) from fun d => rfl)
      have HTP := hid (show bxTap n (M : Int) s j = (bxK n M j, dvW (2 ^ s.toNat) n (bxLens n M j (bxN n M j))) from rfl)
      have HKD := hid (show bxK n (M : Int) j = (j : Int) * n / M from rfl)
      have hN := bxN_le (n := n) (m := (M : Int)) (i := j) ⟨n1, n2⟩ ⟨m1, m2⟩ (by omega)
      have HNine := hid (fun h8 => bx_9 (n := n) (m := (M : Int)) (s := s) HC.out (j := j) (by omega) h8)
      have hBB := hid (fun h h2 => bxBad_next (n := n) (m := (M : Int)) (j := j) h h2)
      obtain ⟨K, hK⟩ : ∃ K, bxK n (M : Int) j = K := ⟨_, rfl⟩
      obtain ⟨BN, hBN⟩ : ∃ K, bxN n (M : Int) j = K := ⟨_, rfl⟩
      obtain ⟨A, hA⟩ : ∃ K, (j : Int) * n = K := ⟨_, rfl⟩
      obtain ⟨E, hE⟩ : ∃ K, ((j : Int) + 1) * n = K := ⟨_, rfl⟩
      rw [hA] at f1 f2 f3 f6 f7 HBX HKD
      rw [hE] at f3 HLT HBX
      rw [hK] at f4 f5 f6 f7 HLT HBX HTP HKD
      rw [hBN] at HIN HSM HLT HTP hN HNine hBB
      rw [hS] at HIN HTP
      clear hK hBN
      obtain ⟨E1, E2, E3, E4⟩ : 0 ≤ E ∧ E ≤ 16384 ∧ E ≤ A + n ∧ A + n ≤ E := by omega
      clear f3
      have tA : Int.tdiv A (M : Int) = K := by rw [Int.tdiv_eq_ediv_of_nonneg f1]; exact HKD.out.symm
      have tA2 : A / (M : Int) = K := HKD.out.symm
      have dm1 : ¬ (M = 0) := by omega
      have dm0 : ¬ ((M : Int) = 0) := by omega
      have wA : IntKind.i64.wrap A = A := IntWalk.i64_in _ (by omega)
      have wE : IntKind.i64.wrap E = E := IntWalk.i64_in _ (by omega)
      have wK : IntKind.i64.wrap K = K := IntWalk.i64_in _ (by omega)
      obtain ⟨D33, hD33⟩ : ∃ D, u31.heap.size = D := ⟨_, rfl⟩
      go_upto_region 11 with fail
      have H34 := hid (show St B W [.cells D33 #[.int .i64 K, .slice none 0 0] 32, .arr (32) 2 (.slice ga tp.length gc) (tp.length) (tapV tp)] Rs (u31.alloc (.cells #[.int .i64 K, .slice none 0 0] 32)) from (H32.out.alloc #[.int .i64 K, .slice none 0 0] 32 hD33))
      first | refine gen_code H34.out ?_ | refine gen_list H34.out ?_ | refine gen_calls H34.out ?_
      intro w35 hG
      clear H34
      have H34 := hid hG
      clear hG
      clear hD33
      have z36 := H34.out.cell 0 rfl 0 rfl
      have z37 := H34.out.cell 0 rfl 1 rfl
      go_wp2_with fail
      clear z36 z37
      have H38 := hid (show St B W [.own (.slice none 0 0) ([]), .cells D33 #[.int .i64 K, .slice none 0 0] 32, .arr (32) 2 (.slice ga tp.length gc) (tp.length) (tapV tp)] Rs w35 from H34.out.grow (Below.refl _ _) (Own.nil _ _))
      go_loopw [14, 13] (fun i v wr => ∃ (d : Nat) (pa : Option Addr) (pc : Nat) (pl : List Int), d ≤ BN ∧ pl = bxLens n M j d ∧ pl.length = d ∧ i = .int .i64 (K + (d : Int)) ∧ v = .slice pa pl.length pc ∧ St B W [.own (.slice pa pl.length pc) pl, .cells D33 #[.int .i64 K, .slice none 0 0] 32, .arr (32) 2 (.slice ga tp.length gc) (tp.length) (tapV tp)] Rs wr) (fun i _ _ => (K + (BN : Int) - intOf i).toNat)
      case atStart => exact ⟨0, _, _, [], by omega, rfl, rfl, by simp, rfl, H38.out.pick [0, 1, 2] rfl (by decide)⟩
      case round =>
        obtain ⟨d, pa, pc, pl, hd, hpl, hpn, rfl, rfl, hst⟩ := hrel
        obtain ⟨u39, rfl⟩ : ∃ u39 : World, u39 = wr := ⟨_, rfl⟩
        have H40 := hid hst
        clear hst
        have HPL := hid hpl
        have HPN := hid hpn
        have hpn2 : pl.length ≤ 1000000 := by omega
        clear hpl hpn
        by_cases hdn : d < BN
        · skip
          obtain ⟨J0, hJ0⟩ : ∃ x, (K + (d : Int)) * (M : Int) = x := ⟨_, rfl⟩
          have hjE : J0 < E := by rw [← hJ0]; exact (HLT.out d).2 hdn
          have hJ1 : (K + (d : Int) + 1) * (M : Int) = J0 + M := by rw [Int.add_mul, Int.one_mul, hJ0]
          have HJ0 := hid hJ0
          have HJ1 := hid hJ1
          have j0 : 0 ≤ J0 := by rw [← hJ0]; exact Int.mul_nonneg (by omega) (by omega)
          have wJ : IntKind.i64.wrap J0 = J0 := IntWalk.i64_in _ (by omega)
          obtain ⟨D43, hD43⟩ : ∃ D, u39.heap.size = D := ⟨_, rfl⟩
          obtain ⟨m41, hm41⟩ : ∃ zz : Int, (if (J0 + (M : Int)) < E then J0 + (M : Int) else E) = zz := ⟨_, rfl⟩
          obtain ⟨m41a, m41b⟩ : 0 ≤ m41 ∧ m41 ≤ 40000 := by rw [← hm41]; split <;> omega
          obtain ⟨m42, hm42⟩ : ∃ zz : Int, (if A < J0 then J0 else A) = zz := ⟨_, rfl⟩
          obtain ⟨m42a, m42b⟩ : 0 ≤ m42 ∧ m42 ≤ 40000 := by rw [← hm42]; split <;> omega
          have H44 := hid (show St B W [.cells D43 #[.int .i64 (m41 - m42)] 3, .own (.slice pa pl.length pc) pl, .cells D33 #[.int .i64 K, .slice none 0 0] 32, .arr (32) 2 (.slice ga tp.length gc) (tp.length) (tapV tp)] Rs (u39.alloc (.cells #[.int .i64 (m41 - m42)] 3)) from (H40.out.alloc #[.int .i64 (m41 - m42)] 3 hD43))
          go_upto_region 14 with (at_builtin; refine append_int rfl _ _ rfl B _ pl (m41 - m42) D43 1 rfl rfl (H44.out.own 1 rfl) (H44.out.cell 0 rfl 0 rfl) (by omega) H44.out.size ?_; intro v47 w48 ho hg hv; have H45 := hid (H44.out.append 1 rfl ho hg hv); clear ho hg hv)
          have HNm41 := hid hm41
          clear hm41
          have HNm42 := hid hm42
          clear hm42
          clear H44
          obtain ⟨v47a, v47c, hva, _⟩ := (H45.out.own 1 rfl).slc
          subst hva
          have H46 := hid (show St B W [.own (.slice v47a ((pl ++ [m41 - m42]).length) v47c) (pl ++ [m41 - m42]), .cells D33 #[.int .i64 K, .slice none 0 0] 32, .arr (32) 2 (.slice ga tp.length gc) (tp.length) (tapV tp)] Rs w48 from H45.out.pick [1, 2, 3] rfl (by decide))
          clear hD43
          go_wp2_with fail
          go_roundw
          case rel => exact ⟨d + 1, _, _, _, by omega, by rw [← bxLens_next, ← HPL.out, HBX.out, HJ1.out, HJ0.out]; have h1 := HNm41.out; have h2 := HNm42.out; unfold mnI mxI; rw [h1, h2], by rw [List.length_append, HPN.out]; rfl, by first | rfl | (congr 1; push_cast; omega), rfl, H46.out.pick [0, 1, 2] rfl (by decide)⟩
          case measure => first | (simp [intOf]; omega) | (simp [intOf]; done)
        · skip
          obtain ⟨J0, hJ0⟩ : ∃ x, (K + (d : Int)) * (M : Int) = x := ⟨_, rfl⟩
          have hjE : ¬ (J0 < E) := by rw [← hJ0]; exact fun h => hdn ((HLT.out d).1 h)
          have j0 : 0 ≤ J0 := by rw [← hJ0]; exact Int.mul_nonneg (by omega) (by omega)
          have j9 : J0 ≤ 4640768 := by rw [← hJ0]; have := Int.mul_le_mul (a := K + (d : Int)) (b := (M : Int)) (c := 36256) (d := 128) (by omega) (by omega) (by omega) (by omega); omega
          have wJ : IntKind.i64.wrap J0 = J0 := IntWalk.i64_in _ (by omega)
          obtain rfl : d = BN := by omega
          by_cases h8 : 8 < d
          · skip
            have h8' : (8 : Int) < pl.length := by rw [HPN.out]; omega
            have HB9 := hid (HNine.out h8)
            go_wp2_with fail
            rw [HB9.out, bxT_no (by rw [HB9.out]; decide)]
            go_ret2
            exact tab_no rfl (by first | exact H40.out.below | exact H40.out.below')
          · skip
            have h8' : ¬ ((8 : Int) < pl.length) := by rw [HPN.out]; omega
            go_wp2_with fail
            have hin := HIN.out (by omega)
            have hsm := HSM.out
            rw [← HPL.out] at hin hsm
            refine (rdivide_any _ n _ _ _ pl _ (H40.out.slc 0 rfl) hin hsm).mono ?_
            rintro e w49 ⟨v51, rfl, ho, hb⟩
            rw [HPL.out] at ho
            have H50 := hid (H40.out.grow hb ho)
            obtain ⟨v51a, v51c, rfl, _⟩ := ho.slc
            clear ho hb hin hsm
            obtain ⟨wl, hwl⟩ : ∃ wl, dvW S n (bxLens n M j d) = wl := ⟨_, rfl⟩
            rw [hwl] at H50 HTP
            skip
            have z52 := H50.out.cell 2 rfl 0 rfl
            have z53 := H50.out.free 2 rfl 0
            have z54 := H50.out.cell 2 rfl 1 rfl
            have z55 := H50.out.free 2 rfl 1
            go_upto_region 19 with fail
            clear z52 z53 z54 z55
            have H56 := hid (show St B W [.own (.slice v51a wl.length v51c) wl, .own (.slice pa pl.length pc) pl, .cells D33 #[.int .i64 K, .slice v51a wl.length v51c] 32, .arr (32) 2 (.slice ga tp.length gc) (tp.length) (tapV tp)] Rs (w49.setCell ⟨D33, 1, none⟩ (.slice v51a wl.length v51c)) from (H50.out.set 2 rfl 1 (.slice v51a wl.length v51c)))
            first | refine gen_code H56.out ?_ | refine gen_list H56.out ?_ | refine gen_calls H56.out ?_
            intro w57 hG
            clear H56
            have H56 := hid hG
            clear hG
            obtain ⟨D58, hD58⟩ : ∃ D, w57.heap.size = D := ⟨_, rfl⟩
            have H59 := hid (show St B W [.cells D58 #[.int .i64 K, .slice v51a wl.length v51c] 32, .own (.slice v51a wl.length v51c) wl, .own (.slice pa pl.length pc) pl, .cells D33 #[.int .i64 K, .slice v51a wl.length v51c] 32, .arr (32) 2 (.slice ga tp.length gc) (tp.length) (tapV tp)] Rs (w57.alloc (.cells #[.int .i64 K, .slice v51a wl.length v51c] 32)) from (H56.out.alloc #[.int .i64 K, .slice v51a wl.length v51c] 32 hD58))
            have z65 := H56.out.cell 2 rfl 0 rfl
            have z66 := H56.out.cell 2 rfl 1 rfl
            go_upto_region 8 with (at_builtin; refine append_vals rfl _ _ 25 32 2 32 (.agg #[.int .i64 0, .slice none 0 0]) Try.underlying25 info_tap rfl (by decide) (by decide) rfl B _ _ _ D58 1 1 [.int .i64 K, .slice v51a wl.length v51c] rfl rfl rfl (H59.out.arrOfT 4 rfl) (lit_news H59.out 0 [.int .i64 K, .slice v51a wl.length v51c] rfl) (by intro u hu; simp at hu; rcases hu with rfl | rfl <;> rfl) (by omega) H59.out.size ?_; intro v61 w62 ho hg hv; have H60 := hid (H59.out.appendE 4 rfl ho hg hv); clear ho hg hv)
            clear z65 z66
            clear H59
            obtain ⟨g63, c64, hva⟩ := arr_posT (H60.out.arrOfT 4 rfl) (by omega)
            subst hva
            clear hD58
            go_wp2_with fail
            have H67 := H60.out.pick (l' := [.own (.slice v51a wl.length v51c) wl, .arr (32) 2 (.slice (some ⟨g63, 0, none⟩) (tp.length + 1) c64) (tp.length + 1) (tapV tp ++ [.int .i64 K, .slice v51a wl.length v51c])]) [1, 4] rfl (by decide)
            have hNW := H67.lay 0 rfl
            have hLY := H67.freeze 0 rfl
            simp only [List.eraseIdx] at hLY
            rw [show tapV tp ++ [.int .i64 K, .slice v51a wl.length v51c] = tapV (tp ++ [(K, ⟨v51a, wl.length, v51c, wl⟩)]) from by rw [tapV_app]; rfl] at hLY
            go_roundw
            case rel => exact ⟨j + 1, _, _, tp ++ [(K, _)], _, by omega, by rw [List.length_append, HTL.out]; rfl, by rw [tapD_app, HTD.out]; unfold bxTo; rw [range_snoc, HTP.out]; rfl, HTQ.out.snoc hNW, hBB.out HBB.out (by omega), by go_num, by rw [List.length_append]; rfl, by rw [List.length_append]; exact hLY⟩
            case measure => first | (simp [intOf]; omega) | (simp [intOf]; done)
    · skip
      have hjn' : ¬ ((j : Int) < M) := by omega
      have HJM := hid (show j = M by omega)
      have HB0 := hid (bx_0 (s := s) HC.out (show bxBad n (M : Int) (M : Int).toNat = false from by rw [show (M : Int).toNat = j by omega]; exact HBB.out))
      go_wp2_with fail
      rw [HB0.out]
      go_ret2
      exact ⟨_, rfl, by rw [hB, show bxT n M s = tapD tp from by unfold bxT; rw [if_pos HB0.out, HTD.out, HJM.out]; rfl]; exact H32.out.outT 0 rfl HTQ.out, by first | exact H32.out.below | exact H32.out.below'⟩
end Go.Proofs.Ytaefdkinpaonkaa
