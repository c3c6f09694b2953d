/-
  The walk of ConvolveChecks: the errors of kernels are those of the reference.
-/
import Derived.Test.YtkpdahjddjdgcaaSane9
import Derived.Test.YtkpdahjddjdgcaaCvQTile
import Derived.Test.YtkpdahjddjdgcaaWeights
import Derived.Test.YtkpdahjddjdgcaaKX
namespace Go.Proofs.Ytkpdahjddjdgcaa
open Go.RowKit
attribute [local go_sem ↓] Go.wp_at_zero Go.wp_at_succ
set_option linter.unusedVariables false
set_option linter.unusedSimpArgs false

set_option maxRecDepth 100000 in
set_option maxHeartbeats 12800000 in
theorem walk_ConvolveChecks (a : Option Addr) (n c : Nat) (zs : List Int) (la : Option Addr) (ln lc : Nat) (ls : List Int) (mx kw kh shift out : Int) (W : World) (hr : RowIn .i64 W a n c zs) (hl : RowIn .i64 W la ln lc ls) (_ : I64 mx) (_ : I64 kw) (_ : I64 kh) (_ : I64 shift) (_ : I64 out) :
    Calls Try.prog 3 #[.slice a n c, .slice la ln lc, .int .i64 mx, .int .i64 kw, .int .i64 kh, .int .i64 shift, .int .i64 out] W fun e w' => e = .returned (.bool true) ∧ Below W.heap.size W w' := by
  obtain ⟨B, hB⟩ : ∃ B, W.heap.size = B := ⟨_, rfl⟩
  have HI0 := hid (St.init hB)
  have HN := hid (nearRow hr hB)
  have HR := hid hr
  clear hr
  have HL := hid (show Slc W la ln lc ls from ⟨hl.row, hl.nc, hl.cap⟩)
  clear hl
  go_enter Try.func3, Try.ntmps3
  go_wp2_with fail
  obtain ⟨K1, hK1⟩ : ∃ D, W.heap.size = D := ⟨_, rfl⟩
  refine (newB_any B _ _ _ _ _ HR.out.len (HI0.out.oldRow HR.out.row) HN.out HI0.out.size).mono ?_
  rintro e w2 ⟨rfl, ht, hb, hs⟩
  rw [hK1] at ht ⊢
  have H3 := hid (HI0.out.newTape ht hb hK1)
  clear ht hb hs hK1
  go_wp2_with fail
  go_loopw [16] (fun i wr => ∃ j : Nat, j ≤ 5 ∧ i = .int .i64 j ∧ St B W [.tape K1] [] wr) (fun i _ => 5 - (intOf i).toNat)
  case atStart => exact ⟨0, by omega, rfl, H3.out.pick [0] rfl (by decide)⟩
  case round =>
    obtain ⟨j, hj, rfl, hst⟩ := hrel
    obtain ⟨u4, rfl⟩ : ∃ u4 : World, u4 = wr := ⟨_, rfl⟩
    have H5 := hid hst
    clear hst
    by_cases c6 : (j : Int) < 5
    · skip
      go_wp2_with fail
      refine (nextB_any B K1 _ _ (by omega) (H5.out.tapeAt 0 rfl)).mono ?_
      rintro e w8 ⟨x7, rfl, x7a, x7b, htn, hgn, hsn⟩
      have H9 := hid (H5.out.next 0 rfl htn hgn)
      clear htn hgn hsn
      go_wp2_with fail
      refine (nextB_any B K1 _ _ (by omega) (H9.out.tapeAt 0 rfl)).mono ?_
      rintro e w11 ⟨x10, rfl, x10a, x10b, htn, hgn, hsn⟩
      have H12 := hid (H9.out.next 0 rfl htn hgn)
      clear htn hgn hsn
      have ab1 := Int.mul_nonneg (a := x7) (b := x10) (by omega) (by omega)
      have ab2 := Int.mul_le_mul (a := x7) (b := x10) (c := 10) (d := 4) (by omega) (by omega) (by omega) (by omega)
      obtain ⟨ab, hab⟩ : ∃ xx', x7 * x10 = xx' := ⟨_, rfl⟩
      rw [hab] at ab1 ab2
      have wab : IntKind.i64.wrap ab = ab := IntWalk.i64_in _ (by omega)
      go_wp2_with fail
      refine (nextB_any B K1 _ _ (by omega) (H12.out.tapeAt 0 rfl)).mono ?_
      rintro e w14 ⟨x13, rfl, x13a, x13b, htn, hgn, hsn⟩
      have H15 := hid (H12.out.next 0 rfl htn hgn)
      clear htn hgn hsn
      obtain ⟨dd, hdd⟩ : ∃ q, Int.tdiv x13 7 = q := ⟨_, rfl⟩
      obtain ⟨dd1, dd2⟩ : 0 ≤ dd ∧ dd ≤ 1 := by
        rw [← hdd, Int.tdiv_eq_ediv_of_nonneg (by omega)]
        omega
      have wd1 : IntKind.i64.wrap dd = dd := IntWalk.i64_in _ (by omega)
      have wd2 : IntKind.i64.wrap (ab + dd) = ab + dd := IntWalk.i64_in _ (by omega)
      go_wp2_with fail
      refine (weights_any B K1 _ _ (by omega) (H15.out.tapeAt 0 rfl)).mono ?_
      rintro e w16 ⟨wv17, wl18, rfl, hlen, hin, ho, ht, hg⟩
      have H19 := hid (H15.out.add (H15.out.next 0 rfl ht hg) ho)
      have HWLwl18 := hid hlen
      have HWBwl18 := hid hin
      obtain ⟨wv17a, wv17c, rfl, _⟩ := ho.slc
      clear hlen hin ho ht hg
      go_upto_region 7 with fail
      go_cut [49] (fun s wx => ∃ (bb : Bool), s = .bool bb ∧ (bb = true → 0 < wl18.length) ∧ St B W [.own (.slice wv17a wl18.length wv17c) wl18, .tape K1] [] wx)
      case first =>
        by_cases c20 : (0 : Int) < wl18.length
        · skip
          go_wp2_with fail
          refine (nextB_any B K1 _ _ (by omega) (H19.out.tapeAt 1 rfl)).mono ?_
          rintro e w22 ⟨x21, rfl, x21a, x21b, htn, hgn, hsn⟩
          have H23 := hid (H19.out.next 1 rfl htn hgn)
          clear htn hgn hsn
          go_wp2_with fail
          go_meet
          exact ⟨_, rfl, fun hbb => by first | (exfalso; revert hbb; simp; done) | omega, H23.out.pick [0, 1] rfl (by decide)⟩
        · skip
          go_wp2_with fail
          go_meet
          exact ⟨_, rfl, fun hbb => by first | (exfalso; revert hbb; simp; done) | omega, H19.out.pick [0, 1] rfl (by decide)⟩
      case rest =>
        obtain ⟨bb, rfl, hbb, hst⟩ := hcut
        obtain ⟨u24, rfl⟩ : ∃ u24 : World, u24 = wc := ⟨_, rfl⟩
        have H25 := hid hst
        clear hst
        have HBB := hid hbb
        clear hbb
        go_upto_if 49 with fail
        go_cut [19] (fun s wx => ∃ (xa : Option Addr) (xn xc : Nat) (xl : List Int), s = .slice xa xn xc ∧ St B W [.own (.slice xa xn xc) xl, .tape K1] [] wx)
        case first =>
          cases bb with
          | true =>
            obtain ⟨gg, gc, hgg⟩ := (H25.out.own 0 rfl).pos (HBB.out rfl)
            injection hgg with hga hgb hgc
            subst hga
            clear hgb hgc
            have hw0 := HBB.out rfl
            obtain ⟨D26, hD26⟩ : ∃ D, u24.heap.size = D := ⟨_, rfl⟩
            go_wp2_with fail
            have H27 := hid (show St B W [.cells D26 #[.int .i64 32767, .int .i64 32768, .int .i64 (-32767)] 3, .own (.slice (some ⟨gg, 0, none⟩) wl18.length wv17c) wl18, .tape K1] [] (u24.alloc (.cells #[.int .i64 32767, .int .i64 32768, .int .i64 (-32767)] 3)) from (H25.out.alloc #[.int .i64 32767, .int .i64 32768, .int .i64 (-32767)] 3 hD26))
            first | refine gen_code H27.out ?_ | refine gen_list H27.out ?_ | refine gen_calls H27.out ?_
            intro w28 hG
            clear H27
            have H27 := hid hG
            clear hG
            clear hD26
            refine (pickB_any B K1 _ 3 3 [32767, 32768, (-32767)] _ (by omega) (by omega) (H27.out.tapeAt 2 rfl) (H27.out.lit 0 [32767, 32768, (-32767)] rfl (by simp)).row (.inr ⟨_, rfl, H27.out.ne 0 2 rfl rfl (by decide) rfl rfl⟩)).mono ?_
            rintro e w30 ⟨x29, rfl, hx29, htn, hgn, hsn⟩
            have H31 := hid (H27.out.next 2 rfl htn hgn)
            clear htn hgn hsn
            clear hx29
            obtain ⟨s1, s2⟩ := H31.out.get 1 rfl (j := 0) hw0
            go_wp2_with fail
            have H32 := hid (show St B W [.cells D26 #[.int .i64 32767, .int .i64 32768, .int .i64 (-32767)] 3, .own (.slice (some ⟨gg, 0, none⟩) wl18.length wv17c) (wl18.set 0 x29), .tape K1] [] (w30.setCell ⟨gg, 0, none⟩ (.int .i64 x29)) from (H31.out.store 1 rfl 0 x29))
            go_meet
            exact ⟨_, _, _, _, rfl, H32.out.pick [1, 2] rfl (by decide)⟩
          | false =>
            go_wp2_with fail
            go_meet
            exact ⟨_, _, _, _, rfl, H25.out.pick [0, 1] rfl (by decide)⟩
        case rest =>
          obtain ⟨xa, xn, xc, xl, rfl, hst⟩ := hcut
          obtain ⟨u33, rfl⟩ : ∃ u33 : World, u33 = wc := ⟨_, rfl⟩
          have H34 := hid hst
          clear hst
          obtain ⟨D35, hD35⟩ : ∃ D, u33.heap.size = D := ⟨_, rfl⟩
          go_wp2_with fail
          have H36 := hid (show St B W [.cells D35 #[.int .i64 255, .int .i64 65535, .int .i64 0, .int .i64 4294967296, .int .i64 4294967297] 3, .own (.slice xa xn xc) xl, .tape K1] [] (u33.alloc (.cells #[.int .i64 255, .int .i64 65535, .int .i64 0, .int .i64 4294967296, .int .i64 4294967297] 3)) from (H34.out.alloc #[.int .i64 255, .int .i64 65535, .int .i64 0, .int .i64 4294967296, .int .i64 4294967297] 3 hD35))
          first | refine gen_code H36.out ?_ | refine gen_list H36.out ?_ | refine gen_calls H36.out ?_
          intro w37 hG
          clear H36
          have H36 := hid hG
          clear hG
          clear hD35
          refine (pickB_any B K1 _ 5 5 [255, 65535, 0, 4294967296, 4294967297] _ (by omega) (by omega) (H36.out.tapeAt 2 rfl) (H36.out.lit 0 [255, 65535, 0, 4294967296, 4294967297] rfl (by simp)).row (.inr ⟨_, rfl, H36.out.ne 0 2 rfl rfl (by decide) rfl rfl⟩)).mono ?_
          rintro e w39 ⟨x38, rfl, hx38, htn, hgn, hsn⟩
          have H40 := hid (H36.out.next 2 rfl htn hgn)
          clear htn hgn hsn
          clear hx38
          obtain ⟨D41, hD41⟩ : ∃ D, w39.heap.size = D := ⟨_, rfl⟩
          go_wp2_with fail
          have H42 := hid (show St B W [.cells D41 #[.int .i64 0, .int .i64 24, .int .i64 25, .int .i64 (-1)] 3, .cells D35 #[.int .i64 255, .int .i64 65535, .int .i64 0, .int .i64 4294967296, .int .i64 4294967297] 3, .own (.slice xa xn xc) xl, .tape K1] [] (w39.alloc (.cells #[.int .i64 0, .int .i64 24, .int .i64 25, .int .i64 (-1)] 3)) from (H40.out.alloc #[.int .i64 0, .int .i64 24, .int .i64 25, .int .i64 (-1)] 3 hD41))
          first | refine gen_code H42.out ?_ | refine gen_list H42.out ?_ | refine gen_calls H42.out ?_
          intro w43 hG
          clear H42
          have H42 := hid hG
          clear hG
          clear hD41
          refine (pickB_any B K1 _ 4 4 [0, 24, 25, (-1)] _ (by omega) (by omega) (H42.out.tapeAt 3 rfl) (H42.out.lit 0 [0, 24, 25, (-1)] rfl (by simp)).row (.inr ⟨_, rfl, H42.out.ne 0 3 rfl rfl (by decide) rfl rfl⟩)).mono ?_
          rintro e w45 ⟨x44, rfl, hx44, htn, hgn, hsn⟩
          have H46 := hid (H42.out.next 3 rfl htn hgn)
          clear htn hgn hsn
          clear hx44
          obtain ⟨D47, hD47⟩ : ∃ D, w45.heap.size = D := ⟨_, rfl⟩
          go_wp2_with fail
          have H48 := hid (show St B W [.cells D47 #[.int .i64 255, .int .i64 0, .int .i64 4294967296] 3, .cells D41 #[.int .i64 0, .int .i64 24, .int .i64 25, .int .i64 (-1)] 3, .cells D35 #[.int .i64 255, .int .i64 65535, .int .i64 0, .int .i64 4294967296, .int .i64 4294967297] 3, .own (.slice xa xn xc) xl, .tape K1] [] (w45.alloc (.cells #[.int .i64 255, .int .i64 0, .int .i64 4294967296] 3)) from (H46.out.alloc #[.int .i64 255, .int .i64 0, .int .i64 4294967296] 3 hD47))
          first | refine gen_code H48.out ?_ | refine gen_list H48.out ?_ | refine gen_calls H48.out ?_
          intro w49 hG
          clear H48
          have H48 := hid hG
          clear hG
          clear hD47
          refine (pickB_any B K1 _ 3 3 [255, 0, 4294967296] _ (by omega) (by omega) (H48.out.tapeAt 4 rfl) (H48.out.lit 0 [255, 0, 4294967296] rfl (by simp)).row (.inr ⟨_, rfl, H48.out.ne 0 4 rfl rfl (by decide) rfl rfl⟩)).mono ?_
          rintro e w51 ⟨x50, rfl, hx50, htn, hgn, hsn⟩
          have H52 := hid (H48.out.next 4 rfl htn hgn)
          clear htn hgn hsn
          clear hx50
          go_wp2_with fail
          refine (ccheck_any _ _ _ _ _ _ _ _ xl _ (H52.out.slc 3 rfl)).mono ?_
          rintro e w53 ⟨rfl, hb⟩
          have H54 := hid (H52.out.call hb)
          clear hb
          obtain ⟨c55, hc55⟩ : ∃ xx', cvCode x38 x7 x10 xl x44 x50 = xx' := ⟨_, rfl⟩
          rw [hc55]
          have HNc55 := hid hc55
          clear hc55
          go_wp2_with fail
          refine (rccheck_any _ _ _ _ _ _ _ _ xl _ (H54.out.slc 3 rfl)).mono ?_
          rintro e w56 ⟨rfl, hb⟩
          have H57 := hid (H54.out.call hb)
          clear hb
          rw [HNc55.out]
          go_wp2_with fail
          go_roundw
          case rel => exact ⟨j + 1, by omega, by go_num, H57.out.pick [4] rfl (by decide)⟩
          case measure => first | (simp [intOf]; omega) | (simp [intOf]; done)
    · skip
      by_cases c58 : (1000 : Int) < ln
      · skip
        go_wp2_with fail
        refine (sane9 _).mono ?_
        rintro e w59 ⟨rfl, hb⟩
        have H60 := hid (H5.out.call hb)
        clear hb
        go_wp2_with fail
        go_ret
        exact ⟨rfl, by first | exact H60.out.below | exact H60.out.below'⟩
      · skip
        go_wp2_with fail
        refine (ccheck_any _ _ _ _ _ _ _ _ ls _ (H5.out.old HL.out)).mono ?_
        rintro e w61 ⟨rfl, hb⟩
        have H62 := hid (H5.out.call hb)
        clear hb
        obtain ⟨c63, hc63⟩ : ∃ xx', cvCode mx kw kh ls shift out = xx' := ⟨_, rfl⟩
        rw [hc63]
        have HNc63 := hid hc63
        clear hc63
        go_wp2_with fail
        refine (rccheck_any _ _ _ _ _ _ _ _ ls _ (H62.out.old HL.out)).mono ?_
        rintro e w64 ⟨rfl, hb⟩
        have H65 := hid (H62.out.call hb)
        clear hb
        rw [HNc63.out]
        go_wp2_with fail
        refine (sane9 _).mono ?_
        rintro e w66 ⟨rfl, hb⟩
        have H67 := hid (H65.out.call hb)
        clear hb
        go_wp2_with fail
        go_ret
        exact ⟨rfl, by first | exact H67.out.below | exact H67.out.below'⟩
end Go.Proofs.Ytkpdahjddjdgcaa
