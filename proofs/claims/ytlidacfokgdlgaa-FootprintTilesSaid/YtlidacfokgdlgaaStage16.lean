/-
 Contract: the law's stage: a stage of the tape's, spoiled in some cases, in the caller's memory.
-/
import Derived.Test.YtlidacfokgdlgaaSpSt
import Derived.Test.YtlidacfokgdlgaaKG
namespace Go.Proofs.Ytlidacfokgdlgaa
open Go.RowKit
attribute [local go_sem ↓] Go.wp_at_zero Go.wp_at_succ
set_option linter.unusedVariables false
set_option linter.unusedSimpArgs false

theorem spoilstage_A {B : Nat} {W w0 : World} {l : List Ch} {rs : List Ro} {A : Array Value} {s : Sg} (hA : A = s.val) (k : Nat) (hlen : s.len 40) (hqx : TQ B rs s.xp) (hqy : TQ B rs s.yp) (hst0 : St B W (s.parts ++ .tape k :: l) rs w0) :
  Calls Try.prog 27 #[.pointer (some ⟨k, 0, none⟩), .agg A] w0 (SgPost B W k 60 l) := by
 subst hA; exact spoilstage_any k s hlen hqx hqy hst0
set_option maxRecDepth 100000 in
set_option maxHeartbeats 12800000 in
theorem stage16_any {B : Nat} {W w0 : World} {l : List Ch} {rs : List Ro} (k : Nat) (sw sh : Int) (hsw : 1 ≤ sw ∧ sw ≤ 100) (hsh : 1 ≤ sh ∧ sh ≤ 100) (hst0 : St B W (.tape k :: l) rs w0) :
  Calls Try.prog 9 #[.pointer (some ⟨k, 0, none⟩), .int .i64 sw, .int .i64 sh] w0 (SgPost B W k 60 l) := by
 have HI0 := hid hst0
 clear hst0
 obtain ⟨sw1, sw2⟩ := hsw
 obtain ⟨sh1, sh2'⟩ := hsh
 go_enter Try.func9, Try.ntmps9
 obtain ⟨D1, hD1⟩ : ∃ D, w0.heap.size = D := ⟨_, rfl⟩
 go_upto_region 1 with fail
 have H2 := hid (show St B W (.cells D1 #[.int .i64 0, .int .i64 0, .int .i64 0, .bool false, .int .i64 0, .int .i64 0, .int .i64 0, .int .i64 0, .slice none 0 0, .slice none 0 0, .slice none 0 0, .int .i64 0, .int .i64 0, .slice none 0 0, .slice none 0 0, .int .i64 0, .slice none 0 0, .int .i64 0] 33 :: .tape k :: l) rs (w0.alloc (.cells #[.int .i64 0, .int .i64 0, .int .i64 0, .bool false, .int .i64 0, .int .i64 0, .int .i64 0, .int .i64 0, .slice none 0 0, .slice none 0 0, .slice none 0 0, .int .i64 0, .int .i64 0, .slice none 0 0, .slice none 0 0, .int .i64 0, .slice none 0 0, .int .i64 0] 33)) from (HI0.out.alloc #[.int .i64 0, .int .i64 0, .int .i64 0, .bool false, .int .i64 0, .int .i64 0, .int .i64 0, .int .i64 0, .slice none 0 0, .slice none 0 0, .slice none 0 0, .int .i64 0, .int .i64 0, .slice none 0 0, .slice none 0 0, .int .i64 0, .slice none 0 0, .int .i64 0] 33 hD1))
 first | refine gen_code H2.out ?_ | refine gen_list H2.out ?_ | refine gen_calls H2.out ?_
 intro w3 hG
 clear H2
 have H2 := hid hG
 clear hG
 clear hD1
 go_wp2_with fail
 refine (stage_any k 0 sw sh 255 (-1) (by omega) (by omega) (show St B W (.tape k :: .cells D1 #[.int .i64 0, .int .i64 0, .int .i64 0, .bool false, .int .i64 0, .int .i64 0, .int .i64 0, .int .i64 0, .slice none 0 0, .slice none 0 0, .slice none 0 0, .int .i64 0, .int .i64 0, .slice none 0 0, .slice none 0 0, .int .i64 0, .slice none 0 0, .int .i64 0] 33 :: l) rs _ from St.pickT (l0 := [.cells D1 #[.int .i64 0, .int .i64 0, .int .i64 0, .bool false, .int .i64 0, .int .i64 0, .int .i64 0, .int .i64 0, .slice none 0 0, .slice none 0 0, .slice none 0 0, .int .i64 0, .int .i64 0, .slice none 0 0, .slice none 0 0, .int .i64 0, .slice none 0 0, .int .i64 0] 33, .tape k]) (T := l) (l' := [.tape k, .cells D1 #[.int .i64 0, .int .i64 0, .int .i64 0, .bool false, .int .i64 0, .int .i64 0, .int .i64 0, .int .i64 0, .slice none 0 0, .slice none 0 0, .slice none 0 0, .int .i64 0, .int .i64 0, .slice none 0 0, .slice none 0 0, .int .i64 0, .slice none 0 0, .int .i64 0] 33]) H2.out [1, 0] rfl (by decide))).mono ?_
 rintro e w5 ⟨⟨kd4, sa4, sb4, bar4, ep4, ef4, kw4, kh4, wa4, wc4, wl4, ra4, rc4, rl4, ca4, cc4, cl4, sh4, sh24, xa4, xn4, xc4, xp4, ya4, yn4, yc4, yp4, bins4, oa4, on4, oc4, ol4, mx4⟩, R7, rfl, ⟨ln4_0, ln4_1, ln4_2, ln4_3, ln4_4, ln4_5⟩, hqx, hqy, hst9⟩
 simp only at ln4_0 ln4_1 ln4_2 ln4_3 ln4_4 ln4_5 hqx hqy
 have H6 := hid (show St B W (.arr (68) 2 (.slice xa4 xn4 xc4) xn4 (tapV xp4) :: .arr (68) 2 (.slice ya4 yn4 yc4) yn4 (tapV yp4) :: .own (.slice wa4 wl4.length wc4) wl4 :: .own (.slice ra4 rl4.length rc4) rl4 :: .own (.slice ca4 cl4.length cc4) cl4 :: .arr (70) 2 (.slice oa4 on4 oc4) on4 (prV ol4) :: .tape k :: .cells D1 #[.int .i64 0, .int .i64 0, .int .i64 0, .bool false, .int .i64 0, .int .i64 0, .int .i64 0, .int .i64 0, .slice none 0 0, .slice none 0 0, .slice none 0 0, .int .i64 0, .int .i64 0, .slice none 0 0, .slice none 0 0, .int .i64 0, .slice none 0 0, .int .i64 0] 33 :: l) R7 w5 from hst9)
 clear hst9
 have HQxp4 := hid hqx
 have HQyp4 := hid hqy
 clear hqx hqy
 obtain ⟨A4, hA4⟩ : ∃ z : Array Value, Sg.val ⟨kd4, sa4, sb4, bar4, ep4, ef4, kw4, kh4, wa4, wc4, wl4, ra4, rc4, rl4, ca4, cc4, cl4, sh4, sh24, xa4, xn4, xc4, xp4, ya4, yn4, yc4, yp4, bins4, oa4, on4, oc4, ol4, mx4⟩ = z := ⟨_, rfl⟩
 rw [hA4]
 have HVA4 := hid hA4.symm
 have HA4 := hid (show A4 = #[.int .i64 kd4, .int .i64 sa4, .int .i64 sb4, .bool bar4, .int .i64 ep4, .int .i64 ef4, .int .i64 kw4, .int .i64 kh4, .slice wa4 wl4.length wc4, .slice ra4 rl4.length rc4, .slice ca4 cl4.length cc4, .int .i64 sh4, .int .i64 sh24, .slice xa4 xn4 xc4, .slice ya4 yn4 yc4, .int .i64 bins4, .slice oa4 on4 oc4, .int .i64 mx4] from hA4.symm)
 clear hA4
 obtain ⟨D8, hD8⟩ : ∃ D, w5.heap.size = D := ⟨_, rfl⟩
 have H9 := hid (show St B W (.cells D8 #[.int .i64 0, .int .i64 0, .int .i64 0, .bool false, .int .i64 0, .int .i64 0, .int .i64 0, .int .i64 0, .slice none 0 0, .slice none 0 0, .slice none 0 0, .int .i64 0, .int .i64 0, .slice none 0 0, .slice none 0 0, .int .i64 0, .slice none 0 0, .int .i64 0] 33 :: .arr (68) 2 (.slice xa4 xn4 xc4) xn4 (tapV xp4) :: .arr (68) 2 (.slice ya4 yn4 yc4) yn4 (tapV yp4) :: .own (.slice wa4 wl4.length wc4) wl4 :: .own (.slice ra4 rl4.length rc4) rl4 :: .own (.slice ca4 cl4.length cc4) cl4 :: .arr (70) 2 (.slice oa4 on4 oc4) on4 (prV ol4) :: .tape k :: .cells D1 #[.int .i64 0, .int .i64 0, .int .i64 0, .bool false, .int .i64 0, .int .i64 0, .int .i64 0, .int .i64 0, .slice none 0 0, .slice none 0 0, .slice none 0 0, .int .i64 0, .int .i64 0, .slice none 0 0, .slice none 0 0, .int .i64 0, .slice none 0 0, .int .i64 0] 33 :: l) R7 (w5.alloc (.cells #[.int .i64 0, .int .i64 0, .int .i64 0, .bool false, .int .i64 0, .int .i64 0, .int .i64 0, .int .i64 0, .slice none 0 0, .slice none 0 0, .slice none 0 0, .int .i64 0, .int .i64 0, .slice none 0 0, .slice none 0 0, .int .i64 0, .slice none 0 0, .int .i64 0] 33)) from (H6.out.alloc #[.int .i64 0, .int .i64 0, .int .i64 0, .bool false, .int .i64 0, .int .i64 0, .int .i64 0, .int .i64 0, .slice none 0 0, .slice none 0 0, .slice none 0 0, .int .i64 0, .int .i64 0, .slice none 0 0, .slice none 0 0, .int .i64 0, .slice none 0 0, .int .i64 0] 33 hD8))
 go_upto_region 2 with (refine storeArm (H9.out.rowAt 0 rfl) (cs' := A4) (by rw [HA4.out]; first | rfl | kernel_rfl) (by rw [HA4.out]; first | rfl | kernel_rfl) (by rw [HA4.out]; first | rfl | kernel_rfl) (by rfl) (by rfl) (by rfl) ?_)
 clear H9
 have H10 := hid (show St B W (.cells D8 A4 33 :: .arr (68) 2 (.slice xa4 xn4 xc4) xn4 (tapV xp4) :: .arr (68) 2 (.slice ya4 yn4 yc4) yn4 (tapV yp4) :: .own (.slice wa4 wl4.length wc4) wl4 :: .own (.slice ra4 rl4.length rc4) rl4 :: .own (.slice ca4 cl4.length cc4) cl4 :: .arr (70) 2 (.slice oa4 on4 oc4) on4 (prV ol4) :: .tape k :: .cells D1 #[.int .i64 0, .int .i64 0, .int .i64 0, .bool false, .int .i64 0, .int .i64 0, .int .i64 0, .int .i64 0, .slice none 0 0, .slice none 0 0, .slice none 0 0, .int .i64 0, .int .i64 0, .slice none 0 0, .slice none 0 0, .int .i64 0, .slice none 0 0, .int .i64 0] 33 :: l) R7 ((w5.alloc (.cells #[.int .i64 0, .int .i64 0, .int .i64 0, .bool false, .int .i64 0, .int .i64 0, .int .i64 0, .int .i64 0, .slice none 0 0, .slice none 0 0, .slice none 0 0, .int .i64 0, .int .i64 0, .slice none 0 0, .slice none 0 0, .int .i64 0, .slice none 0 0, .int .i64 0] 33)).setRow D8 A4) from ((H6.out.alloc #[.int .i64 0, .int .i64 0, .int .i64 0, .bool false, .int .i64 0, .int .i64 0, .int .i64 0, .int .i64 0, .slice none 0 0, .slice none 0 0, .slice none 0 0, .int .i64 0, .int .i64 0, .slice none 0 0, .slice none 0 0, .int .i64 0, .slice none 0 0, .int .i64 0] 33 hD8).setRow 0 rfl A4))
 first | refine gen_code H10.out ?_ | refine gen_list H10.out ?_ | refine gen_calls H10.out ?_
 intro w11 hG
 clear H10
 have H10 := hid hG
 clear hG
 clear hD8
 go_wp2_with fail
 refine (nextB_any B k _ _ (by omega) (H10.out.tapeAt 7 rfl)).mono ?_
 rintro e w13 ⟨x12, rfl, x12a, x12b, htn, hgn, hsn⟩
 have H14 := hid (H10.out.next 7 rfl htn hgn)
 clear htn hgn hsn
 by_cases c15 : (x12 : Int) = 4
 ·
  obtain ⟨c15c, c15d⟩ : (x12 : Int) ≤ 4 ∧ (4 : Int) ≤ x12 := by omega
  have c15a : ((x12 : Int) == (4)) = true := by simpa using c15
  have c15b : ((x12 : Int) != (4)) = false := by simpa using c15
  have c15h := hid c15
  clear c15
  have z16 := H14.out.loadStg 0 rfl (by rw [HA4.out]; rfl)
  go_wp2_with (refine loadArm z16 (by rfl) (by rfl) ?_)
  clear z16
  refine (spoilstage_A HVA4.out k ⟨by simp only; omega, by simp only; omega, by simp only; omega, by simp only; omega, by simp only; omega, by simp only; omega⟩ HQxp4.out HQyp4.out (show St B W (.arr (68) 2 (.slice xa4 xn4 xc4) xn4 (tapV xp4) :: .arr (68) 2 (.slice ya4 yn4 yc4) yn4 (tapV yp4) :: .own (.slice wa4 wl4.length wc4) wl4 :: .own (.slice ra4 rl4.length rc4) rl4 :: .own (.slice ca4 cl4.length cc4) cl4 :: .arr (70) 2 (.slice oa4 on4 oc4) on4 (prV ol4) :: .tape k :: .cells D8 A4 33 :: .cells D1 #[.int .i64 0, .int .i64 0, .int .i64 0, .bool false, .int .i64 0, .int .i64 0, .int .i64 0, .int .i64 0, .slice none 0 0, .slice none 0 0, .slice none 0 0, .int .i64 0, .int .i64 0, .slice none 0 0, .slice none 0 0, .int .i64 0, .slice none 0 0, .int .i64 0] 33 :: l) R7 _ from St.pickT (l0 := [.cells D8 A4 33, .arr (68) 2 (.slice xa4 xn4 xc4) xn4 (tapV xp4), .arr (68) 2 (.slice ya4 yn4 yc4) yn4 (tapV yp4), .own (.slice wa4 wl4.length wc4) wl4, .own (.slice ra4 rl4.length rc4) rl4, .own (.slice ca4 cl4.length cc4) cl4, .arr (70) 2 (.slice oa4 on4 oc4) on4 (prV ol4), .tape k, .cells D1 #[.int .i64 0, .int .i64 0, .int .i64 0, .bool false, .int .i64 0, .int .i64 0, .int .i64 0, .int .i64 0, .slice none 0 0, .slice none 0 0, .slice none 0 0, .int .i64 0, .int .i64 0, .slice none 0 0, .slice none 0 0, .int .i64 0, .slice none 0 0, .int .i64 0] 33]) (T := l) (l' := [.arr (68) 2 (.slice xa4 xn4 xc4) xn4 (tapV xp4), .arr (68) 2 (.slice ya4 yn4 yc4) yn4 (tapV yp4), .own (.slice wa4 wl4.length wc4) wl4, .own (.slice ra4 rl4.length rc4) rl4, .own (.slice ca4 cl4.length cc4) cl4, .arr (70) 2 (.slice oa4 on4 oc4) on4 (prV ol4), .tape k, .cells D8 A4 33, .cells D1 #[.int .i64 0, .int .i64 0, .int .i64 0, .bool false, .int .i64 0, .int .i64 0, .int .i64 0, .int .i64 0, .slice none 0 0, .slice none 0 0, .slice none 0 0, .int .i64 0, .int .i64 0, .slice none 0 0, .slice none 0 0, .int .i64 0, .slice none 0 0, .int .i64 0] 33]) H14.out [1, 2, 3, 4, 5, 6, 7, 0, 8] rfl (by decide))).mono ?_
  rintro e w18 ⟨⟨kd17, sa17, sb17, bar17, ep17, ef17, kw17, kh17, wa17, wc17, wl17, ra17, rc17, rl17, ca17, cc17, cl17, sh17, sh217, xa17, xn17, xc17, xp17, ya17, yn17, yc17, yp17, bins17, oa17, on17, oc17, ol17, mx17⟩, R20, rfl, ⟨ln17_0, ln17_1, ln17_2, ln17_3, ln17_4, ln17_5⟩, hqx, hqy, hst9⟩
  simp only at ln17_0 ln17_1 ln17_2 ln17_3 ln17_4 ln17_5 hqx hqy
  have H19 := hid (show St B W (.arr (68) 2 (.slice xa17 xn17 xc17) xn17 (tapV xp17) :: .arr (68) 2 (.slice ya17 yn17 yc17) yn17 (tapV yp17) :: .own (.slice wa17 wl17.length wc17) wl17 :: .own (.slice ra17 rl17.length rc17) rl17 :: .own (.slice ca17 cl17.length cc17) cl17 :: .arr (70) 2 (.slice oa17 on17 oc17) on17 (prV ol17) :: .tape k :: .cells D8 A4 33 :: .cells D1 #[.int .i64 0, .int .i64 0, .int .i64 0, .bool false, .int .i64 0, .int .i64 0, .int .i64 0, .int .i64 0, .slice none 0 0, .slice none 0 0, .slice none 0 0, .int .i64 0, .int .i64 0, .slice none 0 0, .slice none 0 0, .int .i64 0, .slice none 0 0, .int .i64 0] 33 :: l) R20 w18 from hst9)
  clear hst9
  have HQxp17 := hid hqx
  have HQyp17 := hid hqy
  clear hqx hqy
  obtain ⟨A17, hA17⟩ : ∃ z : Array Value, Sg.val ⟨kd17, sa17, sb17, bar17, ep17, ef17, kw17, kh17, wa17, wc17, wl17, ra17, rc17, rl17, ca17, cc17, cl17, sh17, sh217, xa17, xn17, xc17, xp17, ya17, yn17, yc17, yp17, bins17, oa17, on17, oc17, ol17, mx17⟩ = z := ⟨_, rfl⟩
  rw [hA17]
  have HVA17 := hid hA17.symm
  have HA17 := hid (show A17 = #[.int .i64 kd17, .int .i64 sa17, .int .i64 sb17, .bool bar17, .int .i64 ep17, .int .i64 ef17, .int .i64 kw17, .int .i64 kh17, .slice wa17 wl17.length wc17, .slice ra17 rl17.length rc17, .slice ca17 cl17.length cc17, .int .i64 sh17, .int .i64 sh217, .slice xa17 xn17 xc17, .slice ya17 yn17 yc17, .int .i64 bins17, .slice oa17 on17 oc17, .int .i64 mx17] from hA17.symm)
  clear hA17
  go_upto_region 4 with (refine storeArm (H19.out.rowAt 7 rfl) (cs' := A17) (by rw [HA17.out]; first | rfl | kernel_rfl) (by rw [HA4.out, HA17.out]; first | rfl | kernel_rfl) (by rw [HA17.out]; first | rfl | kernel_rfl) (by rfl) (by rfl) (by rfl) ?_)
  have H21 := hid (show St B W (.arr (68) 2 (.slice xa17 xn17 xc17) xn17 (tapV xp17) :: .arr (68) 2 (.slice ya17 yn17 yc17) yn17 (tapV yp17) :: .own (.slice wa17 wl17.length wc17) wl17 :: .own (.slice ra17 rl17.length rc17) rl17 :: .own (.slice ca17 cl17.length cc17) cl17 :: .arr (70) 2 (.slice oa17 on17 oc17) on17 (prV ol17) :: .tape k :: .cells D8 A17 33 :: .cells D1 #[.int .i64 0, .int .i64 0, .int .i64 0, .bool false, .int .i64 0, .int .i64 0, .int .i64 0, .int .i64 0, .slice none 0 0, .slice none 0 0, .slice none 0 0, .int .i64 0, .int .i64 0, .slice none 0 0, .slice none 0 0, .int .i64 0, .slice none 0 0, .int .i64 0] 33 :: l) R20 (w18.setRow D8 A17) from (H19.out.setRow 7 rfl A17))
  first | refine gen_code H21.out ?_ | refine gen_list H21.out ?_ | refine gen_calls H21.out ?_
  intro w22 hG
  clear H21
  have H21 := hid hG
  clear hG
  obtain ⟨z23, z24, z25, z26, z27, z28, z29, z30, z31, z32, z33, z34, z35, z36, z37, z38, z39, z40⟩ := cs18 H21.out 8 rfl
  have z41 := H21.out.loadStg 7 rfl (by rw [HA17.out]; rfl)
  go_wp2_with (first | (refine loadArm z41 (by rfl) (by rfl) ?_) | (refine storeArm (H21.out.rowAt 8 rfl) (cs' := A17) (by rw [HA17.out]; first | rfl | kernel_rfl) (by rw [HA17.out]; first | rfl | kernel_rfl) (by rw [HA17.out]; first | rfl | kernel_rfl) (by rfl) (by rfl) (by rfl) ?_))
  clear z23 z24 z25 z26 z27 z28 z29 z30 z31 z32 z33 z34 z35 z36 z37 z38 z39 z40 z41
  have H42 := hid (show St B W (.arr (68) 2 (.slice xa17 xn17 xc17) xn17 (tapV xp17) :: .arr (68) 2 (.slice ya17 yn17 yc17) yn17 (tapV yp17) :: .own (.slice wa17 wl17.length wc17) wl17 :: .own (.slice ra17 rl17.length rc17) rl17 :: .own (.slice ca17 cl17.length cc17) cl17 :: .arr (70) 2 (.slice oa17 on17 oc17) on17 (prV ol17) :: .tape k :: .cells D8 A17 33 :: .cells D1 A17 33 :: l) R20 (w22.setRow D1 A17) from (H21.out.setRow 8 rfl A17))
  have hfin := St.pickT (l0 := [.arr (68) 2 (.slice xa17 xn17 xc17) xn17 (tapV xp17), .arr (68) 2 (.slice ya17 yn17 yc17) yn17 (tapV yp17), .own (.slice wa17 wl17.length wc17) wl17, .own (.slice ra17 rl17.length rc17) rl17, .own (.slice ca17 cl17.length cc17) cl17, .arr (70) 2 (.slice oa17 on17 oc17) on17 (prV ol17), .tape k, .cells D8 A17 33, .cells D1 A17 33]) (T := l) (l' := [.arr (68) 2 (.slice xa17 xn17 xc17) xn17 (tapV xp17), .arr (68) 2 (.slice ya17 yn17 yc17) yn17 (tapV yp17), .own (.slice wa17 wl17.length wc17) wl17, .own (.slice ra17 rl17.length rc17) rl17, .own (.slice ca17 cl17.length cc17) cl17, .arr (70) 2 (.slice oa17 on17 oc17) on17 (prV ol17), .tape k]) H42.out [0, 1, 2, 3, 4, 5, 6] rfl (by decide)
  refine bodyPost_ret (v := .agg A17) ?_ rfl ⟨⟨kd17, sa17, sb17, bar17, ep17, ef17, kw17, kh17, wa17, wc17, wl17, ra17, rc17, rl17, ca17, cc17, cl17, sh17, sh217, xa17, xn17, xc17, xp17, ya17, yn17, yc17, yp17, bins17, oa17, on17, oc17, ol17, mx17⟩, R20, by rw [HA17.out]; rfl, ⟨by (try simp only [List.length_nil]); first | omega | (simp; omega), by (try simp only [List.length_nil]); first | omega | (simp; omega), by (try simp only [List.length_nil]); first | omega | (simp; omega), by (try simp only [List.length_nil]); first | omega | (simp; omega), by (try simp only [List.length_nil]); first | omega | (simp; omega), by (try simp only [List.length_nil]); first | omega | (simp; omega)⟩, HQxp17.out, HQyp17.out, hfin⟩
  exact results_cell_row rfl _ _ D1 33 _ (0, 0) _ (by rfl) (H42.out.rowAt 8 rfl) Try.underlying33 rfl (by have hz : (Try.prog.info? 33).map (·.size) = some 18 := (by kernel_rfl); rw [hz, HA17.out]; rfl)
 ·
  have c15a : ((x12 : Int) == (4)) = false := by simpa using c15
  have c15b : ((x12 : Int) != (4)) = true := by simpa using c15
  have c15h := hid c15
  clear c15
  obtain ⟨z43, z44, z45, z46, z47, z48, z49, z50, z51, z52, z53, z54, z55, z56, z57, z58, z59, z60⟩ := cs18 H14.out 8 rfl
  have z61 := H14.out.loadStg 0 rfl (by rw [HA4.out]; rfl)
  go_wp2_with (first | (refine loadArm z61 (by rfl) (by rfl) ?_) | (refine storeArm (H14.out.rowAt 8 rfl) (cs' := A4) (by rw [HA4.out]; first | rfl | kernel_rfl) (by rw [HA4.out]; first | rfl | kernel_rfl) (by rw [HA4.out]; first | rfl | kernel_rfl) (by rfl) (by rfl) (by rfl) ?_))
  clear z43 z44 z45 z46 z47 z48 z49 z50 z51 z52 z53 z54 z55 z56 z57 z58 z59 z60 z61
  have H62 := hid (show St B W (.cells D8 A4 33 :: .arr (68) 2 (.slice xa4 xn4 xc4) xn4 (tapV xp4) :: .arr (68) 2 (.slice ya4 yn4 yc4) yn4 (tapV yp4) :: .own (.slice wa4 wl4.length wc4) wl4 :: .own (.slice ra4 rl4.length rc4) rl4 :: .own (.slice ca4 cl4.length cc4) cl4 :: .arr (70) 2 (.slice oa4 on4 oc4) on4 (prV ol4) :: .tape k :: .cells D1 A4 33 :: l) R7 (w13.setRow D1 A4) from (H14.out.setRow 8 rfl A4))
  have hfin := St.pickT (l0 := [.cells D8 A4 33, .arr (68) 2 (.slice xa4 xn4 xc4) xn4 (tapV xp4), .arr (68) 2 (.slice ya4 yn4 yc4) yn4 (tapV yp4), .own (.slice wa4 wl4.length wc4) wl4, .own (.slice ra4 rl4.length rc4) rl4, .own (.slice ca4 cl4.length cc4) cl4, .arr (70) 2 (.slice oa4 on4 oc4) on4 (prV ol4), .tape k, .cells D1 A4 33]) (T := l) (l' := [.arr (68) 2 (.slice xa4 xn4 xc4) xn4 (tapV xp4), .arr (68) 2 (.slice ya4 yn4 yc4) yn4 (tapV yp4), .own (.slice wa4 wl4.length wc4) wl4, .own (.slice ra4 rl4.length rc4) rl4, .own (.slice ca4 cl4.length cc4) cl4, .arr (70) 2 (.slice oa4 on4 oc4) on4 (prV ol4), .tape k]) H62.out [1, 2, 3, 4, 5, 6, 7] rfl (by decide)
  refine bodyPost_ret (v := .agg A4) ?_ rfl ⟨⟨kd4, sa4, sb4, bar4, ep4, ef4, kw4, kh4, wa4, wc4, wl4, ra4, rc4, rl4, ca4, cc4, cl4, sh4, sh24, xa4, xn4, xc4, xp4, ya4, yn4, yc4, yp4, bins4, oa4, on4, oc4, ol4, mx4⟩, R7, by rw [HA4.out]; rfl, ⟨by (try simp only [List.length_nil]); first | omega | (simp; omega), by (try simp only [List.length_nil]); first | omega | (simp; omega), by (try simp only [List.length_nil]); first | omega | (simp; omega), by (try simp only [List.length_nil]); first | omega | (simp; omega), by (try simp only [List.length_nil]); first | omega | (simp; omega), by (try simp only [List.length_nil]); first | omega | (simp; omega)⟩, HQxp4.out, HQyp4.out, hfin⟩
  exact results_cell_row rfl _ _ D1 33 _ (0, 0) _ (by rfl) (H62.out.rowAt 8 rfl) Try.underlying33 rfl (by have hz : (Try.prog.info? 33).map (·.size) = some 18 := (by kernel_rfl); rw [hz, HA4.out]; rfl)
end Go.Proofs.Ytlidacfokgdlgaa
