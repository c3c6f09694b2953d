/-
  The walk of SeparableChecks: the errors of row and column kernels are those of the reference.
-/
import Derived.Test.YtkpdahjddjdgcaaSane10
import Derived.Test.YtkpdahjddjdgcaaWeights
import Derived.Test.YtkpdahjddjdgcaaKX
namespace Go.Proofs.Ytkpdahjddjdgcaa
open Go.RowKit
attribute [local go_sem ↓] Go.wp_at_zero Go.wp_at_succ
set_option linter.unusedVariables false
set_option linter.unusedSimpArgs false

set_option maxRecDepth 100000 in
set_option maxHeartbeats 12800000 in
theorem walk_SeparableChecks (a : Option Addr) (n c : Nat) (zs : List Int) (la : Option Addr) (ln lc : Nat) (ls : List Int) (ka : Option Addr) (kn kc : Nat) (ks : List Int) (mx shift shift2 out : Int) (W : World) (hr : RowIn .i64 W a n c zs) (hl : RowIn .i64 W la ln lc ls) (hk : RowIn .i64 W ka kn kc ks) (_ : I64 mx) (_ : I64 shift) (_ : I64 shift2) (_ : I64 out) :
    Calls Try.prog 8 #[.slice a n c, .slice la ln lc, .slice ka kn kc, .int .i64 mx, .int .i64 shift, .int .i64 shift2, .int .i64 out] W fun e w' => e = .returned (.bool true) ∧ Below W.heap.size W w' := by
  obtain ⟨B, hB⟩ : ∃ B, W.heap.size = B := ⟨_, rfl⟩
  have HI0 := hid (St.init hB)
  have HN := hid (nearRow hr hB)
  have HR := hid hr
  clear hr
  have HL := hid (show Slc W la ln lc ls from ⟨hl.row, hl.nc, hl.cap⟩)
  have HK := hid (show Slc W ka kn kc ks from ⟨hk.row, hk.nc, hk.cap⟩)
  clear hl hk
  go_enter Try.func8, Try.ntmps8
  go_wp2_with fail
  obtain ⟨K1, hK1⟩ : ∃ D, W.heap.size = D := ⟨_, rfl⟩
  refine (newB_any B _ _ _ _ _ HR.out.len (HI0.out.oldRow HR.out.row) HN.out HI0.out.size).mono ?_
  rintro e w2 ⟨rfl, ht, hb, hs⟩
  rw [hK1] at ht ⊢
  have H3 := hid (HI0.out.newTape ht hb hK1)
  clear ht hb hs hK1
  go_wp2_with fail
  go_loopw [16] (fun i wr => ∃ j : Nat, j ≤ 5 ∧ i = .int .i64 j ∧ St B W [.tape K1] [] wr) (fun i _ => 5 - (intOf i).toNat)
  case atStart => exact ⟨0, by omega, rfl, H3.out.pick [0] rfl (by decide)⟩
  case round =>
    obtain ⟨j, hj, rfl, hst⟩ := hrel
    obtain ⟨u4, rfl⟩ : ∃ u4 : World, u4 = wr := ⟨_, rfl⟩
    have H5 := hid hst
    clear hst
    by_cases c6 : (j : Int) < 5
    · skip
      go_wp2_with fail
      refine (nextB_any B K1 _ _ (by omega) (H5.out.tapeAt 0 rfl)).mono ?_
      rintro e w8 ⟨x7, rfl, x7a, x7b, htn, hgn, hsn⟩
      have H9 := hid (H5.out.next 0 rfl htn hgn)
      clear htn hgn hsn
      go_wp2_with fail
      refine (weights_any B K1 _ _ (by omega) (H9.out.tapeAt 0 rfl)).mono ?_
      rintro e w10 ⟨wv11, wl12, rfl, hlen, hin, ho, ht, hg⟩
      have H13 := hid (H9.out.add (H9.out.next 0 rfl ht hg) ho)
      have HWLwl12 := hid hlen
      have HWBwl12 := hid hin
      obtain ⟨wv11a, wv11c, rfl, _⟩ := ho.slc
      clear hlen hin ho ht hg
      go_wp2_with fail
      refine (nextB_any B K1 _ _ (by omega) (H13.out.tapeAt 1 rfl)).mono ?_
      rintro e w15 ⟨x14, rfl, x14a, x14b, htn, hgn, hsn⟩
      have H16 := hid (H13.out.next 1 rfl htn hgn)
      clear htn hgn hsn
      go_wp2_with fail
      refine (weights_any B K1 _ _ (by omega) (H16.out.tapeAt 1 rfl)).mono ?_
      rintro e w17 ⟨wv18, wl19, rfl, hlen, hin, ho, ht, hg⟩
      have H20 := hid (H16.out.add (H16.out.next 1 rfl ht hg) ho)
      have HWLwl19 := hid hlen
      have HWBwl19 := hid hin
      obtain ⟨wv18a, wv18c, rfl, _⟩ := ho.slc
      clear hlen hin ho ht hg
      go_upto_region 6 with fail
      go_cut [44] (fun s wx => ∃ (bb : Bool), s = .bool bb ∧ (bb = true → 0 < wl12.length) ∧ St B W [.own (.slice wv18a wl19.length wv18c) wl19, .own (.slice wv11a wl12.length wv11c) wl12, .tape K1] [] wx)
      case first =>
        by_cases c21 : (0 : Int) < wl12.length
        · skip
          go_wp2_with fail
          refine (nextB_any B K1 _ _ (by omega) (H20.out.tapeAt 2 rfl)).mono ?_
          rintro e w23 ⟨x22, rfl, x22a, x22b, htn, hgn, hsn⟩
          have H24 := hid (H20.out.next 2 rfl htn hgn)
          clear htn hgn hsn
          go_wp2_with fail
          go_meet
          exact ⟨_, rfl, fun hbb => by first | (exfalso; revert hbb; simp; done) | omega, H24.out.pick [0, 1, 2] rfl (by decide)⟩
        · skip
          go_wp2_with fail
          go_meet
          exact ⟨_, rfl, fun hbb => by first | (exfalso; revert hbb; simp; done) | omega, H20.out.pick [0, 1, 2] rfl (by decide)⟩
      case rest =>
        obtain ⟨bb, rfl, hbb, hst⟩ := hcut
        obtain ⟨u25, rfl⟩ : ∃ u25 : World, u25 = wc := ⟨_, rfl⟩
        have H26 := hid hst
        clear hst
        have HBB := hid hbb
        clear hbb
        go_upto_if 44 with fail
        go_cut [17, 18] (fun s s1 wx => ∃ (xa : Option Addr) (xn xc : Nat) (xl : List Int) (ya : Option Addr) (yn yc : Nat) (yl : List Int), s = .slice xa xn xc ∧ s1 = .slice ya yn yc ∧ St B W [.own (.slice xa xn xc) xl, .own (.slice ya yn yc) yl, .tape K1] [] wx)
        case first =>
          cases bb with
          | true =>
            obtain ⟨ga, gac, hgg⟩ := (H26.out.own 1 rfl).pos (HBB.out rfl)
            injection hgg with hga hgb hgc
            subst hga
            clear hgb hgc
            obtain ⟨gb, gbc, hgg⟩ := (H26.out.own 0 rfl).pos (by have := HWLwl19.out; omega)
            injection hgg with hga hgb hgc
            subst hga
            clear hgb hgc
            have hw0 := HBB.out rfl
            have hw1 : 0 < wl19.length := by have := HWLwl19.out; omega
            obtain ⟨D27, hD27⟩ : ∃ D, u25.heap.size = D := ⟨_, rfl⟩
            go_wp2_with fail
            have H28 := hid (show St B W [.cells D27 #[.int .i64 32767, .int .i64 32768] 3, .own (.slice (some ⟨gb, 0, none⟩) wl19.length wv18c) wl19, .own (.slice (some ⟨ga, 0, none⟩) wl12.length wv11c) wl12, .tape K1] [] (u25.alloc (.cells #[.int .i64 32767, .int .i64 32768] 3)) from (H26.out.alloc #[.int .i64 32767, .int .i64 32768] 3 hD27))
            first | refine gen_code H28.out ?_ | refine gen_list H28.out ?_ | refine gen_calls H28.out ?_
            intro w29 hG
            clear H28
            have H28 := hid hG
            clear hG
            clear hD27
            refine (pickB_any B K1 _ 2 2 [32767, 32768] _ (by omega) (by omega) (H28.out.tapeAt 3 rfl) (H28.out.lit 0 [32767, 32768] rfl (by simp)).row (.inr ⟨_, rfl, H28.out.ne 0 3 rfl rfl (by decide) rfl rfl⟩)).mono ?_
            rintro e w31 ⟨x30, rfl, hx30, htn, hgn, hsn⟩
            have H32 := hid (H28.out.next 3 rfl htn hgn)
            clear htn hgn hsn
            clear hx30
            obtain ⟨s1, s2⟩ := H32.out.get 2 rfl (j := 0) hw0
            obtain ⟨s3, s4⟩ := (H32.out.store 2 rfl 0 x30).get 1 rfl (j := 0) hw1
            go_wp2_with fail
            have H33 := hid (show St B W [.cells D27 #[.int .i64 32767, .int .i64 32768] 3, .own (.slice (some ⟨gb, 0, none⟩) wl19.length wv18c) (wl19.set 0 (-32767)), .own (.slice (some ⟨ga, 0, none⟩) wl12.length wv11c) (wl12.set 0 x30), .tape K1] [] ((w31.setCell ⟨ga, 0, none⟩ (.int .i64 x30)).setCell ⟨gb, 0, none⟩ (.int .i64 (-32767))) from ((H32.out.store 2 rfl 0 x30).store 1 rfl 0 (-32767)))
            go_meet
            exact ⟨_, _, _, _, _, _, _, _, rfl, rfl, H33.out.pick [2, 1, 3] rfl (by decide)⟩
          | false =>
            go_wp2_with fail
            go_meet
            exact ⟨_, _, _, _, _, _, _, _, rfl, rfl, H26.out.pick [1, 0, 2] rfl (by decide)⟩
        case rest =>
          obtain ⟨xa, xn, xc, xl, ya, yn, yc, yl, rfl, rfl, hst⟩ := hcut
          obtain ⟨u34, rfl⟩ : ∃ u34 : World, u34 = wc := ⟨_, rfl⟩
          have H35 := hid hst
          clear hst
          obtain ⟨D36, hD36⟩ : ∃ D, u34.heap.size = D := ⟨_, rfl⟩
          go_wp2_with fail
          have H37 := hid (show St B W [.cells D36 #[.int .i64 255, .int .i64 65535, .int .i64 0, .int .i64 4294967296] 3, .own (.slice xa xn xc) xl, .own (.slice ya yn yc) yl, .tape K1] [] (u34.alloc (.cells #[.int .i64 255, .int .i64 65535, .int .i64 0, .int .i64 4294967296] 3)) from (H35.out.alloc #[.int .i64 255, .int .i64 65535, .int .i64 0, .int .i64 4294967296] 3 hD36))
          first | refine gen_code H37.out ?_ | refine gen_list H37.out ?_ | refine gen_calls H37.out ?_
          intro w38 hG
          clear H37
          have H37 := hid hG
          clear hG
          clear hD36
          refine (pickB_any B K1 _ 4 4 [255, 65535, 0, 4294967296] _ (by omega) (by omega) (H37.out.tapeAt 3 rfl) (H37.out.lit 0 [255, 65535, 0, 4294967296] rfl (by simp)).row (.inr ⟨_, rfl, H37.out.ne 0 3 rfl rfl (by decide) rfl rfl⟩)).mono ?_
          rintro e w40 ⟨x39, rfl, hx39, htn, hgn, hsn⟩
          have H41 := hid (H37.out.next 3 rfl htn hgn)
          clear htn hgn hsn
          clear hx39
          obtain ⟨D42, hD42⟩ : ∃ D, w40.heap.size = D := ⟨_, rfl⟩
          go_wp2_with fail
          have H43 := hid (show St B W [.cells D42 #[.int .i64 0, .int .i64 24, .int .i64 25, .int .i64 3] 3, .cells D36 #[.int .i64 255, .int .i64 65535, .int .i64 0, .int .i64 4294967296] 3, .own (.slice xa xn xc) xl, .own (.slice ya yn yc) yl, .tape K1] [] (w40.alloc (.cells #[.int .i64 0, .int .i64 24, .int .i64 25, .int .i64 3] 3)) from (H41.out.alloc #[.int .i64 0, .int .i64 24, .int .i64 25, .int .i64 3] 3 hD42))
          first | refine gen_code H43.out ?_ | refine gen_list H43.out ?_ | refine gen_calls H43.out ?_
          intro w44 hG
          clear H43
          have H43 := hid hG
          clear hG
          clear hD42
          refine (pickB_any B K1 _ 4 4 [0, 24, 25, 3] _ (by omega) (by omega) (H43.out.tapeAt 4 rfl) (H43.out.lit 0 [0, 24, 25, 3] rfl (by simp)).row (.inr ⟨_, rfl, H43.out.ne 0 4 rfl rfl (by decide) rfl rfl⟩)).mono ?_
          rintro e w46 ⟨x45, rfl, hx45, htn, hgn, hsn⟩
          have H47 := hid (H43.out.next 4 rfl htn hgn)
          clear htn hgn hsn
          clear hx45
          obtain ⟨D48, hD48⟩ : ∃ D, w46.heap.size = D := ⟨_, rfl⟩
          go_wp2_with fail
          have H49 := hid (show St B W [.cells D48 #[.int .i64 0, .int .i64 (-1), .int .i64 8] 3, .cells D42 #[.int .i64 0, .int .i64 24, .int .i64 25, .int .i64 3] 3, .cells D36 #[.int .i64 255, .int .i64 65535, .int .i64 0, .int .i64 4294967296] 3, .own (.slice xa xn xc) xl, .own (.slice ya yn yc) yl, .tape K1] [] (w46.alloc (.cells #[.int .i64 0, .int .i64 (-1), .int .i64 8] 3)) from (H47.out.alloc #[.int .i64 0, .int .i64 (-1), .int .i64 8] 3 hD48))
          first | refine gen_code H49.out ?_ | refine gen_list H49.out ?_ | refine gen_calls H49.out ?_
          intro w50 hG
          clear H49
          have H49 := hid hG
          clear hG
          clear hD48
          refine (pickB_any B K1 _ 3 3 [0, (-1), 8] _ (by omega) (by omega) (H49.out.tapeAt 5 rfl) (H49.out.lit 0 [0, (-1), 8] rfl (by simp)).row (.inr ⟨_, rfl, H49.out.ne 0 5 rfl rfl (by decide) rfl rfl⟩)).mono ?_
          rintro e w52 ⟨x51, rfl, hx51, htn, hgn, hsn⟩
          have H53 := hid (H49.out.next 5 rfl htn hgn)
          clear htn hgn hsn
          clear hx51
          go_wp2_with fail
          refine (scheck_any _ _ _ _ _ _ _ xl _ _ _ yl _ (H53.out.slc 3 rfl) (H53.out.slc 4 rfl)).mono ?_
          rintro e w54 ⟨rfl, hb⟩
          have H55 := hid (H53.out.call hb)
          clear hb
          obtain ⟨c56, hc56⟩ : ∃ xx', spCode x39 xl yl x45 x51 255 = xx' := ⟨_, rfl⟩
          rw [hc56]
          have HNc56 := hid hc56
          clear hc56
          go_wp2_with fail
          refine (rscheck_any _ _ _ _ _ _ _ xl _ _ _ yl _ (H55.out.slc 3 rfl) (H55.out.slc 4 rfl)).mono ?_
          rintro e w57 ⟨rfl, hb⟩
          have H58 := hid (H55.out.call hb)
          clear hb
          rw [HNc56.out]
          go_wp2_with fail
          go_roundw
          case rel => exact ⟨j + 1, by omega, by go_num, H58.out.pick [5] rfl (by decide)⟩
          case measure => first | (simp [intOf]; omega) | (simp [intOf]; done)
    · skip
      by_cases c59 : (1000 : Int) < ln
      · skip
        go_wp2_with fail
        refine (sane10 _).mono ?_
        rintro e w60 ⟨rfl, hb⟩
        have H61 := hid (H5.out.call hb)
        clear hb
        go_wp2_with fail
        go_ret
        exact ⟨rfl, by first | exact H61.out.below | exact H61.out.below'⟩
      · skip
        by_cases c62 : (1000 : Int) < kn
        · skip
          go_wp2_with fail
          refine (sane10 _).mono ?_
          rintro e w63 ⟨rfl, hb⟩
          have H64 := hid (H5.out.call hb)
          clear hb
          go_wp2_with fail
          go_ret
          exact ⟨rfl, by first | exact H64.out.below | exact H64.out.below'⟩
        · skip
          go_wp2_with fail
          refine (scheck_any _ _ _ _ _ _ _ ls _ _ _ ks _ (H5.out.old HL.out) (H5.out.old HK.out)).mono ?_
          rintro e w65 ⟨rfl, hb⟩
          have H66 := hid (H5.out.call hb)
          clear hb
          obtain ⟨c67, hc67⟩ : ∃ xx', spCode mx ls ks shift shift2 out = xx' := ⟨_, rfl⟩
          rw [hc67]
          have HNc67 := hid hc67
          clear hc67
          go_wp2_with fail
          refine (rscheck_any _ _ _ _ _ _ _ ls _ _ _ ks _ (H66.out.old HL.out) (H66.out.old HK.out)).mono ?_
          rintro e w68 ⟨rfl, hb⟩
          have H69 := hid (H66.out.call hb)
          clear hb
          rw [HNc67.out]
          go_wp2_with fail
          refine (sane10 _).mono ?_
          rintro e w70 ⟨rfl, hb⟩
          have H71 := hid (H69.out.call hb)
          clear hb
          go_wp2_with fail
          go_ret
          exact ⟨rfl, by first | exact H71.out.below | exact H71.out.below'⟩
end Go.Proofs.Ytkpdahjddjdgcaa
