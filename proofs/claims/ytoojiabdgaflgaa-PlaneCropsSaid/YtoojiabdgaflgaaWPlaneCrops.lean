/-
  The walk of PlaneCrops: crops and blits of the program are those of the reference.
-/
import Derived.Test.YtoojiabdgaflgaaSane4
import Derived.Test.YtoojiabdgaflgaaTRect
import Derived.Test.YtoojiabdgaflgaaNear
namespace Go.Proofs.Ytoojiabdgaflgaa
open Go.RowKit
attribute [local go_sem ↓] Go.wp_at_zero Go.wp_at_succ
set_option linter.unusedVariables false
set_option linter.unusedSimpArgs false

set_option maxRecDepth 100000 in
set_option maxHeartbeats 12800000 in
theorem walk_PlaneCrops (a : Option Addr) (n c : Nat) (zs : List Int) (r0 r1 r2 r3 x y : Int) (W : World) (hr : RowIn .i64 W a n c zs) (_ : I64 r0) (_ : I64 r1) (_ : I64 r2) (_ : I64 r3) (_ : I64 x) (_ : I64 y) :
    Calls Try.prog 15 #[.slice a n c, .agg #[.int .i64 r0, .int .i64 r1, .int .i64 r2, .int .i64 r3], .int .i64 x, .int .i64 y] W fun e w' => e = .returned (.bool true) ∧ Below W.heap.size W w' := by
  obtain ⟨B, hB⟩ : ∃ B, W.heap.size = B := ⟨_, rfl⟩
  have HI0 := hid (St.init hB)
  have HN := hid (nearRow hr hB)
  have HR := hid hr
  clear hr
  go_enter Try.func15, Try.ntmps15
  go_upto_region 1 with fail
  have H1 := hid (show St B W [.cells B #[.int .i64 r0, .int .i64 r1, .int .i64 r2, .int .i64 r3] 39] [] (W.alloc (.cells #[.int .i64 r0, .int .i64 r1, .int .i64 r2, .int .i64 r3] 39)) from (HI0.out.alloc #[.int .i64 r0, .int .i64 r1, .int .i64 r2, .int .i64 r3] 39 hB))
  first | refine gen_code H1.out ?_ | refine gen_list H1.out ?_ | refine gen_calls H1.out ?_
  intro w2 hG
  clear H1
  have H1 := hid hG
  clear hG
  go_wp2_with fail
  obtain ⟨K3, hK3⟩ : ∃ D, w2.heap.size = D := ⟨_, rfl⟩
  refine (newB_any B _ _ _ _ _ HR.out.len (H1.out.oldRow HR.out.row) HN.out H1.out.size).mono ?_
  rintro e w4 ⟨rfl, ht, hb, hs⟩
  rw [hK3] at ht ⊢
  have H5 := hid (H1.out.newTape ht hb hK3)
  clear ht hb hs hK3
  go_wp2_with fail
  refine (nextB_any B K3 _ _ (by omega) (H5.out.tapeAt 0 rfl)).mono ?_
  rintro e w7 ⟨x6, rfl, x6a, x6b, htn, hgn, hsn⟩
  have H8 := hid (H5.out.next 0 rfl htn hgn)
  clear htn hgn hsn
  go_wp2_with fail
  refine (nextB_any B K3 _ _ (by omega) (H8.out.tapeAt 0 rfl)).mono ?_
  rintro e w10 ⟨x9, rfl, x9a, x9b, htn, hgn, hsn⟩
  have H11 := hid (H8.out.next 0 rfl htn hgn)
  clear htn hgn hsn
  go_wp2_with fail
  refine (sized_any B K3 _ _ _ (by omega) (by omega) (by omega) (by omega) (H11.out.tapeAt 0 rfl)).mono ?_
  rintro e w13 ⟨pm12, pv12, ps12, rfl, hv, hm, ho, ht, hg⟩
  have H14 := hid (H11.out.add (H11.out.next 0 rfl ht hg) ho)
  obtain ⟨pw12, hpw12⟩ : ∃ z, 2 + x6 = z := ⟨_, rfl⟩
  rw [hpw12] at hv ⊢
  have Hpw12 := hid hpw12
  obtain ⟨pw121, pw122⟩ : 1 ≤ pw12 ∧ pw12 ≤ 12 := by omega
  clear hpw12
  obtain ⟨ph12, hph12⟩ : ∃ z, 2 + x9 = z := ⟨_, rfl⟩
  rw [hph12] at hv ⊢
  have Hph12 := hid hph12
  obtain ⟨ph121, ph122⟩ : 1 ≤ ph12 ∧ ph12 ≤ 12 := by omega
  clear hph12
  have HVps12 := hid hv
  have HMps12 := hid hm
  obtain ⟨pv12a, pv12c, rfl, _⟩ := ho.slc
  clear hv hm ho ht hg
  go_wp2_with fail
  refine (plane_any B K3 _ (H14.out.tapeAt 1 rfl)).mono ?_
  rintro e w16 ⟨pw15, ph15, pw151, pw152, ph151, ph152, pm15, pv15, ps15, rfl, hv, hm, ho, ht, hg⟩
  have H17 := hid (H14.out.add (H14.out.next 1 rfl ht hg) ho)
  have HVps15 := hid hv
  have HMps15 := hid hm
  obtain ⟨pv15a, pv15c, rfl, _⟩ := ho.slc
  clear hv hm ho ht hg
  obtain ⟨D18, hD18⟩ : ∃ D, w16.heap.size = D := ⟨_, rfl⟩
  go_upto_region 3 with fail
  have H19 := hid (show St B W [.cells (D18 + 1) #[.int .i64 pw15, .int .i64 ph15, .int .i64 pm15, .slice pv15a ps15.length pv15c] 26, .cells D18 #[.int .i64 pw12, .int .i64 ph12, .int .i64 pm12, .slice pv12a ps12.length pv12c] 26, .own (.slice pv15a ps15.length pv15c) ps15, .own (.slice pv12a ps12.length pv12c) ps12, .tape K3, .cells B #[.int .i64 r0, .int .i64 r1, .int .i64 r2, .int .i64 r3] 39] [] ((w16.alloc (.cells #[.int .i64 pw12, .int .i64 ph12, .int .i64 pm12, .slice pv12a ps12.length pv12c] 26)).alloc (.cells #[.int .i64 pw15, .int .i64 ph15, .int .i64 pm15, .slice pv15a ps15.length pv15c] 26)) from ((H17.out.alloc #[.int .i64 pw12, .int .i64 ph12, .int .i64 pm12, .slice pv12a ps12.length pv12c] 26 hD18).alloc #[.int .i64 pw15, .int .i64 ph15, .int .i64 pm15, .slice pv15a ps15.length pv15c] 26 (by first | exact hD18 | simp [hD18])))
  first | refine gen_code H19.out ?_ | refine gen_list H19.out ?_ | refine gen_calls H19.out ?_
  intro w20 hG
  clear H19
  have H19 := hid hG
  clear hG
  clear hD18
  go_wp2_with fail
  go_loopw [12] (fun i wr => ∃ j : Nat, j ≤ 5 ∧ i = .int .i64 j ∧ St B W [.cells (D18 + 1) #[.int .i64 pw15, .int .i64 ph15, .int .i64 pm15, .slice pv15a ps15.length pv15c] 26, .cells D18 #[.int .i64 pw12, .int .i64 ph12, .int .i64 pm12, .slice pv12a ps12.length pv12c] 26, .own (.slice pv15a ps15.length pv15c) ps15, .own (.slice pv12a ps12.length pv12c) ps12, .tape K3, .cells B #[.int .i64 r0, .int .i64 r1, .int .i64 r2, .int .i64 r3] 39] [] wr) (fun i _ => 5 - (intOf i).toNat)
  case atStart => exact ⟨0, by omega, rfl, H19.out⟩
  case round =>
    obtain ⟨j, hj, rfl, hst⟩ := hrel
    obtain ⟨u21, rfl⟩ : ∃ u21 : World, u21 = wr := ⟨_, rfl⟩
    have H22 := hid hst
    clear hst
    by_cases c23 : (j : Int) < 5
    · skip
      go_wp2_with fail
      refine (rectB_any B K3 _ (H22.out.tapeAt 4 rfl)).mono ?_
      rintro e w25 ⟨r24_0, r24_1, r24_2, r24_3, rfl, ht, hg⟩
      have H26 := hid (H22.out.next 4 rfl ht hg)
      clear ht hg
      go_wp2_with fail
      refine (nextB_any B K3 _ _ (by omega) (H26.out.tapeAt 4 rfl)).mono ?_
      rintro e w28 ⟨x27, rfl, x27a, x27b, htn, hgn, hsn⟩
      have H29 := hid (H26.out.next 4 rfl htn hgn)
      clear htn hgn hsn
      go_wp2_with fail
      refine (nextB_any B K3 _ _ (by omega) (H29.out.tapeAt 4 rfl)).mono ?_
      rintro e w31 ⟨x30, rfl, x30a, x30b, htn, hgn, hsn⟩
      have H32 := hid (H29.out.next 4 rfl htn hgn)
      clear htn hgn hsn
      obtain ⟨D33, hD33⟩ : ∃ D, w31.heap.size = D := ⟨_, rfl⟩
      go_upto_region 7 with fail
      have H34 := hid (show St B W [.cells D33 #[.int .i64 r24_0, .int .i64 r24_1, .int .i64 r24_2, .int .i64 r24_3] 39, .cells (D18 + 1) #[.int .i64 pw15, .int .i64 ph15, .int .i64 pm15, .slice pv15a ps15.length pv15c] 26, .cells D18 #[.int .i64 pw12, .int .i64 ph12, .int .i64 pm12, .slice pv12a ps12.length pv12c] 26, .own (.slice pv15a ps15.length pv15c) ps15, .own (.slice pv12a ps12.length pv12c) ps12, .tape K3, .cells B #[.int .i64 r0, .int .i64 r1, .int .i64 r2, .int .i64 r3] 39] [] (w31.alloc (.cells #[.int .i64 r24_0, .int .i64 r24_1, .int .i64 r24_2, .int .i64 r24_3] 39)) from (H32.out.alloc #[.int .i64 r24_0, .int .i64 r24_1, .int .i64 r24_2, .int .i64 r24_3] 39 hD33))
      first | refine gen_code H34.out ?_ | refine gen_list H34.out ?_ | refine gen_calls H34.out ?_
      intro w35 hG
      clear H34
      have H34 := hid hG
      clear hG
      clear hD33
      go_upto_if 49 with fail
      go_cut [12, 14, 15] (fun s s1 s2 wx => ∃ (y0 y1 y2 y3 cu cv : Int), s = .int .i64 j ∧ s1 = .int .i64 cu ∧ s2 = .int .i64 cv ∧ St B W [.cells D33 #[.int .i64 y0, .int .i64 y1, .int .i64 y2, .int .i64 y3] 39, .cells (D18 + 1) #[.int .i64 pw15, .int .i64 ph15, .int .i64 pm15, .slice pv15a ps15.length pv15c] 26, .cells D18 #[.int .i64 pw12, .int .i64 ph12, .int .i64 pm12, .slice pv12a ps12.length pv12c] 26, .own (.slice pv15a ps15.length pv15c) ps15, .own (.slice pv12a ps12.length pv12c) ps12, .tape K3, .cells B #[.int .i64 r0, .int .i64 r1, .int .i64 r2, .int .i64 r3] 39] [] wx)
      case first =>
        by_cases hN : j = 4
        · skip
          subst hN
          have z36 := H34.out.cell 6 rfl 0 rfl
          have z37 := H34.out.cell 6 rfl 1 rfl
          have z38 := H34.out.cell 6 rfl 2 rfl
          have z39 := H34.out.cell 6 rfl 3 rfl
          have z40 := H34.out.cell 0 rfl 0 rfl
          have z41 := H34.out.free 0 rfl 0
          have z42 := H34.out.cell 0 rfl 1 rfl
          have z43 := H34.out.free 0 rfl 1
          have z44 := H34.out.cell 0 rfl 2 rfl
          have z45 := H34.out.free 0 rfl 2
          have z46 := H34.out.cell 0 rfl 3 rfl
          have z47 := H34.out.free 0 rfl 3
          go_wp2_with fail
          clear z36 z37 z38 z39 z40 z41 z42 z43 z44 z45 z46 z47
          have H48 := hid (show St B W [.cells D33 #[.int .i64 r0, .int .i64 r1, .int .i64 r2, .int .i64 r3] 39, .cells (D18 + 1) #[.int .i64 pw15, .int .i64 ph15, .int .i64 pm15, .slice pv15a ps15.length pv15c] 26, .cells D18 #[.int .i64 pw12, .int .i64 ph12, .int .i64 pm12, .slice pv12a ps12.length pv12c] 26, .own (.slice pv15a ps15.length pv15c) ps15, .own (.slice pv12a ps12.length pv12c) ps12, .tape K3, .cells B #[.int .i64 r0, .int .i64 r1, .int .i64 r2, .int .i64 r3] 39] [] ((((w35.setCell ⟨D33, 0, none⟩ (.int .i64 r0)).setCell ⟨D33, 1, none⟩ (.int .i64 r1)).setCell ⟨D33, 2, none⟩ (.int .i64 r2)).setCell ⟨D33, 3, none⟩ (.int .i64 r3)) from (H34.out.set4 0 rfl (.int .i64 r0) (.int .i64 r1) (.int .i64 r2) (.int .i64 r3)))
          go_meet
          exact ⟨_, _, _, _, _, _, rfl, rfl, rfl, H48.out.pick [0, 1, 2, 3, 4, 5, 6] rfl (by decide)⟩
        · skip
          have hN4 : ((j : Int) == 4) = false := by simp; omega
          clear hN
          go_wp2_with fail
          go_meet
          exact ⟨_, _, _, _, _, _, rfl, rfl, rfl, H34.out.pick [0, 1, 2, 3, 4, 5, 6] rfl (by decide)⟩
      case rest =>
        obtain ⟨y0, y1, y2, y3, cu, cv, rfl, rfl, rfl, hst⟩ := hcut
        obtain ⟨u49, rfl⟩ : ∃ u49 : World, u49 = wc := ⟨_, rfl⟩
        have H50 := hid hst
        clear hst
        have z51 := H50.out.cell 2 rfl 0 rfl
        have z52 := H50.out.cell 2 rfl 1 rfl
        have z53 := H50.out.cell 2 rfl 2 rfl
        have z54 := H50.out.cell 2 rfl 3 rfl
        have z55 := H50.out.cell 0 rfl 0 rfl
        have z56 := H50.out.cell 0 rfl 1 rfl
        have z57 := H50.out.cell 0 rfl 2 rfl
        have z58 := H50.out.cell 0 rfl 3 rfl
        go_wp2_with fail
        clear z51 z52 z53 z54 z55 z56 z57 z58
        refine (pcrop_any _ _ _ _ _ _ ps12 _ _ _ _ _ (H50.out.slc 4 rfl)).mono ?_
        rintro e w59 ⟨v60, rfl, ho, hb⟩
        obtain ⟨l61, hl61⟩ : ∃ z, cList pw12 ph12 pm12 ps12 y0 y1 y2 y3 = z := ⟨_, rfl⟩
        rw [hl61] at ho
        have HNl61 := hid hl61
        clear hl61
        have H62 := hid (H50.out.grow hb ho)
        obtain ⟨v60a, v60c, rfl, _⟩ := ho.slc
        clear ho hb
        obtain ⟨t63, ht63⟩ : ∃ z, cIf pw12 ph12 pm12 ps12 y0 y1 y2 y3 (y2 - y0) = z := ⟨_, rfl⟩
        rw [ht63]
        have HNt63 := hid ht63
        clear ht63
        obtain ⟨t64, ht64⟩ : ∃ z, cIf pw12 ph12 pm12 ps12 y0 y1 y2 y3 (y3 - y1) = z := ⟨_, rfl⟩
        rw [ht64]
        have HNt64 := hid ht64
        clear ht64
        obtain ⟨t65, ht65⟩ : ∃ z, cIf pw12 ph12 pm12 ps12 y0 y1 y2 y3 pm12 = z := ⟨_, rfl⟩
        rw [ht65]
        have HNt65 := hid ht65
        clear ht65
        obtain ⟨b66, hb66⟩ : ∃ z, cOk pw12 ph12 pm12 ps12 y0 y1 y2 y3 = z := ⟨_, rfl⟩
        rw [hb66]
        have HNb66 := hid hb66
        clear hb66
        obtain ⟨D67, hD67⟩ : ∃ D, w59.heap.size = D := ⟨_, rfl⟩
        go_upto_region 10 with fail
        have H68 := hid (show St B W [.cells D67 #[.int .i64 t63, .int .i64 t64, .int .i64 t65, .slice v60a l61.length v60c] 26, .own (.slice v60a l61.length v60c) l61, .cells D33 #[.int .i64 y0, .int .i64 y1, .int .i64 y2, .int .i64 y3] 39, .cells (D18 + 1) #[.int .i64 pw15, .int .i64 ph15, .int .i64 pm15, .slice pv15a ps15.length pv15c] 26, .cells D18 #[.int .i64 pw12, .int .i64 ph12, .int .i64 pm12, .slice pv12a ps12.length pv12c] 26, .own (.slice pv15a ps15.length pv15c) ps15, .own (.slice pv12a ps12.length pv12c) ps12, .tape K3, .cells B #[.int .i64 r0, .int .i64 r1, .int .i64 r2, .int .i64 r3] 39] [] (w59.alloc (.cells #[.int .i64 t63, .int .i64 t64, .int .i64 t65, .slice v60a l61.length v60c] 26)) from (H62.out.alloc #[.int .i64 t63, .int .i64 t64, .int .i64 t65, .slice v60a l61.length v60c] 26 hD67))
        first | refine gen_code H68.out ?_ | refine gen_list H68.out ?_ | refine gen_calls H68.out ?_
        intro w69 hG
        clear H68
        have H68 := hid hG
        clear hG
        clear hD67
        have z70 := H68.out.cell 4 rfl 0 rfl
        have z71 := H68.out.cell 4 rfl 1 rfl
        have z72 := H68.out.cell 4 rfl 2 rfl
        have z73 := H68.out.cell 4 rfl 3 rfl
        have z74 := H68.out.cell 2 rfl 0 rfl
        have z75 := H68.out.cell 2 rfl 1 rfl
        have z76 := H68.out.cell 2 rfl 2 rfl
        have z77 := H68.out.cell 2 rfl 3 rfl
        go_wp2_with fail
        clear z70 z71 z72 z73 z74 z75 z76 z77
        refine (qcrop_any _ _ _ _ _ _ ps12 _ _ _ _ _ (H68.out.slc 6 rfl)).mono ?_
        rintro e w78 ⟨v79, rfl, ho, hb⟩
        rw [HNl61.out] at ho
        have H80 := hid (H68.out.grow hb ho)
        obtain ⟨v79a, v79c, rfl, _⟩ := ho.slc
        clear ho hb
        rw [HNt63.out]
        rw [HNt64.out]
        rw [HNt65.out]
        rw [HNb66.out]
        obtain ⟨D81, hD81⟩ : ∃ D, w78.heap.size = D := ⟨_, rfl⟩
        go_upto_region 11 with fail
        have H82 := hid (show St B W [.cells D81 #[.int .i64 t63, .int .i64 t64, .int .i64 t65, .slice v79a l61.length v79c] 26, .own (.slice v79a l61.length v79c) l61, .cells D67 #[.int .i64 t63, .int .i64 t64, .int .i64 t65, .slice v60a l61.length v60c] 26, .own (.slice v60a l61.length v60c) l61, .cells D33 #[.int .i64 y0, .int .i64 y1, .int .i64 y2, .int .i64 y3] 39, .cells (D18 + 1) #[.int .i64 pw15, .int .i64 ph15, .int .i64 pm15, .slice pv15a ps15.length pv15c] 26, .cells D18 #[.int .i64 pw12, .int .i64 ph12, .int .i64 pm12, .slice pv12a ps12.length pv12c] 26, .own (.slice pv15a ps15.length pv15c) ps15, .own (.slice pv12a ps12.length pv12c) ps12, .tape K3, .cells B #[.int .i64 r0, .int .i64 r1, .int .i64 r2, .int .i64 r3] 39] [] (w78.alloc (.cells #[.int .i64 t63, .int .i64 t64, .int .i64 t65, .slice v79a l61.length v79c] 26)) from (H80.out.alloc #[.int .i64 t63, .int .i64 t64, .int .i64 t65, .slice v79a l61.length v79c] 26 hD81))
        first | refine gen_code H82.out ?_ | refine gen_list H82.out ?_ | refine gen_calls H82.out ?_
        intro w83 hG
        clear H82
        have H82 := hid hG
        clear hG
        clear hD81
        have z84 := H82.out.cell 6 rfl 0 rfl
        have z85 := H82.out.cell 6 rfl 1 rfl
        have z86 := H82.out.cell 6 rfl 2 rfl
        have z87 := H82.out.cell 6 rfl 3 rfl
        have z88 := H82.out.cell 5 rfl 0 rfl
        have z89 := H82.out.cell 5 rfl 1 rfl
        have z90 := H82.out.cell 5 rfl 2 rfl
        have z91 := H82.out.cell 5 rfl 3 rfl
        go_wp2_with fail
        clear z84 z85 z86 z87 z88 z89 z90 z91
        refine (pblit_any _ _ _ _ _ _ ps12 _ _ _ _ _ _ ps15 _ _ _ (H82.out.slc 8 rfl) (H82.out.slc 7 rfl)).mono ?_
        rintro e w92 ⟨v93, rfl, ho, hb⟩
        obtain ⟨l94, hl94⟩ : ∃ z, blList pw12 ph12 pm12 ps12 pw15 ph15 pm15 ps15 cu cv = z := ⟨_, rfl⟩
        rw [hl94] at ho
        have HNl94 := hid hl94
        clear hl94
        have H95 := hid (H82.out.grow hb ho)
        obtain ⟨v93a, v93c, rfl, _⟩ := ho.slc
        clear ho hb
        obtain ⟨t96, ht96⟩ : ∃ z, blIf pw12 ph12 pm12 ps12 pw15 ph15 pm15 ps15 cu cv pw12 = z := ⟨_, rfl⟩
        rw [ht96]
        have HNt96 := hid ht96
        clear ht96
        obtain ⟨t97, ht97⟩ : ∃ z, blIf pw12 ph12 pm12 ps12 pw15 ph15 pm15 ps15 cu cv ph12 = z := ⟨_, rfl⟩
        rw [ht97]
        have HNt97 := hid ht97
        clear ht97
        obtain ⟨t98, ht98⟩ : ∃ z, blIf pw12 ph12 pm12 ps12 pw15 ph15 pm15 ps15 cu cv pm12 = z := ⟨_, rfl⟩
        rw [ht98]
        have HNt98 := hid ht98
        clear ht98
        obtain ⟨b99, hb99⟩ : ∃ z, blOk pw12 ph12 pm12 ps12 pw15 ph15 pm15 ps15 cu cv = z := ⟨_, rfl⟩
        rw [hb99]
        have HNb99 := hid hb99
        clear hb99
        obtain ⟨D100, hD100⟩ : ∃ D, w92.heap.size = D := ⟨_, rfl⟩
        go_upto_region 12 with fail
        have H101 := hid (show St B W [.cells D100 #[.int .i64 t96, .int .i64 t97, .int .i64 t98, .slice v93a l94.length v93c] 26, .own (.slice v93a l94.length v93c) l94, .cells D81 #[.int .i64 t63, .int .i64 t64, .int .i64 t65, .slice v79a l61.length v79c] 26, .own (.slice v79a l61.length v79c) l61, .cells D67 #[.int .i64 t63, .int .i64 t64, .int .i64 t65, .slice v60a l61.length v60c] 26, .own (.slice v60a l61.length v60c) l61, .cells D33 #[.int .i64 y0, .int .i64 y1, .int .i64 y2, .int .i64 y3] 39, .cells (D18 + 1) #[.int .i64 pw15, .int .i64 ph15, .int .i64 pm15, .slice pv15a ps15.length pv15c] 26, .cells D18 #[.int .i64 pw12, .int .i64 ph12, .int .i64 pm12, .slice pv12a ps12.length pv12c] 26, .own (.slice pv15a ps15.length pv15c) ps15, .own (.slice pv12a ps12.length pv12c) ps12, .tape K3, .cells B #[.int .i64 r0, .int .i64 r1, .int .i64 r2, .int .i64 r3] 39] [] (w92.alloc (.cells #[.int .i64 t96, .int .i64 t97, .int .i64 t98, .slice v93a l94.length v93c] 26)) from (H95.out.alloc #[.int .i64 t96, .int .i64 t97, .int .i64 t98, .slice v93a l94.length v93c] 26 hD100))
        first | refine gen_code H101.out ?_ | refine gen_list H101.out ?_ | refine gen_calls H101.out ?_
        intro w102 hG
        clear H101
        have H101 := hid hG
        clear hG
        clear hD100
        have z103 := H101.out.cell 8 rfl 0 rfl
        have z104 := H101.out.cell 8 rfl 1 rfl
        have z105 := H101.out.cell 8 rfl 2 rfl
        have z106 := H101.out.cell 8 rfl 3 rfl
        have z107 := H101.out.cell 7 rfl 0 rfl
        have z108 := H101.out.cell 7 rfl 1 rfl
        have z109 := H101.out.cell 7 rfl 2 rfl
        have z110 := H101.out.cell 7 rfl 3 rfl
        go_wp2_with fail
        clear z103 z104 z105 z106 z107 z108 z109 z110
        refine (qblit_any _ _ _ _ _ _ ps12 _ _ _ _ _ _ ps15 _ _ _ (H101.out.slc 10 rfl) (H101.out.slc 9 rfl)).mono ?_
        rintro e w111 ⟨v112, rfl, ho, hb⟩
        rw [HNl94.out] at ho
        have H113 := hid (H101.out.grow hb ho)
        obtain ⟨v112a, v112c, rfl, _⟩ := ho.slc
        clear ho hb
        rw [HNt96.out]
        rw [HNt97.out]
        rw [HNt98.out]
        rw [HNb99.out]
        obtain ⟨D114, hD114⟩ : ∃ D, w111.heap.size = D := ⟨_, rfl⟩
        go_upto_region 13 with fail
        have H115 := hid (show St B W [.cells D114 #[.int .i64 t96, .int .i64 t97, .int .i64 t98, .slice v112a l94.length v112c] 26, .own (.slice v112a l94.length v112c) l94, .cells D100 #[.int .i64 t96, .int .i64 t97, .int .i64 t98, .slice v93a l94.length v93c] 26, .own (.slice v93a l94.length v93c) l94, .cells D81 #[.int .i64 t63, .int .i64 t64, .int .i64 t65, .slice v79a l61.length v79c] 26, .own (.slice v79a l61.length v79c) l61, .cells D67 #[.int .i64 t63, .int .i64 t64, .int .i64 t65, .slice v60a l61.length v60c] 26, .own (.slice v60a l61.length v60c) l61, .cells D33 #[.int .i64 y0, .int .i64 y1, .int .i64 y2, .int .i64 y3] 39, .cells (D18 + 1) #[.int .i64 pw15, .int .i64 ph15, .int .i64 pm15, .slice pv15a ps15.length pv15c] 26, .cells D18 #[.int .i64 pw12, .int .i64 ph12, .int .i64 pm12, .slice pv12a ps12.length pv12c] 26, .own (.slice pv15a ps15.length pv15c) ps15, .own (.slice pv12a ps12.length pv12c) ps12, .tape K3, .cells B #[.int .i64 r0, .int .i64 r1, .int .i64 r2, .int .i64 r3] 39] [] (w111.alloc (.cells #[.int .i64 t96, .int .i64 t97, .int .i64 t98, .slice v112a l94.length v112c] 26)) from (H113.out.alloc #[.int .i64 t96, .int .i64 t97, .int .i64 t98, .slice v112a l94.length v112c] 26 hD114))
        first | refine gen_code H115.out ?_ | refine gen_list H115.out ?_ | refine gen_calls H115.out ?_
        intro w116 hG
        clear H115
        have H115 := hid hG
        clear hG
        clear hD114
        have z117 := H115.out.cell 6 rfl 0 rfl
        have z118 := H115.out.cell 6 rfl 1 rfl
        have z119 := H115.out.cell 6 rfl 2 rfl
        have z120 := H115.out.cell 6 rfl 3 rfl
        have z121 := H115.out.cell 4 rfl 0 rfl
        have z122 := H115.out.cell 4 rfl 1 rfl
        have z123 := H115.out.cell 4 rfl 2 rfl
        have z124 := H115.out.cell 4 rfl 3 rfl
        go_wp2_with fail
        clear z117 z118 z119 z120 z121 z122 z123 z124
        refine (qequal_any _ _ _ _ _ _ l61 _ _ _ _ _ _ l61 _ (H115.out.slc 7 rfl) (H115.out.slc 5 rfl)).mono ?_
        rintro e w125 ⟨rfl, hb⟩
        have H126 := hid (H115.out.call hb)
        clear hb
        rw [show pEq t63 t64 t65 l61 t63 t64 t65 l61 = true from by simp [pEq]]
        have z127 := H126.out.cell 2 rfl 0 rfl
        have z128 := H126.out.cell 2 rfl 1 rfl
        have z129 := H126.out.cell 2 rfl 2 rfl
        have z130 := H126.out.cell 2 rfl 3 rfl
        have z131 := H126.out.cell 0 rfl 0 rfl
        have z132 := H126.out.cell 0 rfl 1 rfl
        have z133 := H126.out.cell 0 rfl 2 rfl
        have z134 := H126.out.cell 0 rfl 3 rfl
        go_wp2_with fail
        clear z127 z128 z129 z130 z131 z132 z133 z134
        refine (qequal_any _ _ _ _ _ _ l94 _ _ _ _ _ _ l94 _ (H126.out.slc 3 rfl) (H126.out.slc 1 rfl)).mono ?_
        rintro e w135 ⟨rfl, hb⟩
        have H136 := hid (H126.out.call hb)
        clear hb
        rw [show pEq t96 t97 t98 l94 t96 t97 t98 l94 = true from by simp [pEq]]
        go_wp2_with fail
        go_roundw
        case rel => exact ⟨j + 1, by omega, by go_num, H136.out.pick [9, 10, 11, 12, 13, 14] rfl (by decide)⟩
        case measure => first | (simp [intOf]; omega) | (simp [intOf]; done)
    · skip
      go_wp2_with fail
      refine (sane4 _).mono ?_
      rintro e w137 ⟨rfl, hb⟩
      have H138 := hid (H22.out.call hb)
      clear hb
      go_wp2_with fail
      go_ret
      exact ⟨rfl, by first | exact H138.out.below | exact H138.out.below'⟩
end Go.Proofs.Ytoojiabdgaflgaa
