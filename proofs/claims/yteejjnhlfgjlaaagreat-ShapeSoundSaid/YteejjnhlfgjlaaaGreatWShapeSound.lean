/-
 The walk of ShapeSound: a stage's result has the shape that Of says.
-/
import Derived.Test.YteejjnhlfgjlaaaGreatZA
import Derived.Test.YteejjnhlfgjlaaaGreatShp3
import Derived.Test.YteejjnhlfgjlaaaGreatND
import Derived.Test.YteejjnhlfgjlaaaGreatStage16
import Derived.Test.YteejjnhlfgjlaaaGreatKC
import Derived.Test.YteejjnhlfgjlaaaGreatKX
import Derived.Test.YteejjnhlfgjlaaaGreatKH
namespace Go.Proofs.YteejjnhlfgjlaaaGreat
open Go.RowKit
attribute [local go_sem ↓] Go.wp_at_zero Go.wp_at_succ shape_eq shape_ne
set_option linter.unusedVariables false
set_option linter.unusedSimpArgs false

set_option maxRecDepth 100000 in
set_option maxHeartbeats 12800000 in
theorem walk_ShapeSound (a : Option Addr) (n c : Nat) (zs : List Int) (W : World) (hr : RowIn .i64 W a n c zs) :
  Calls Tryz.prog 3 #[.slice a n c] W fun e w' => e = .returned (.bool true) ∧ Below W.heap.size W w' := by
 obtain ⟨B, hB⟩ : ∃ B, W.heap.size = B := ⟨_, rfl⟩; have HI0 := kq (St.init hB); have HN := kq (nearRow hr hB); have HR := kq hr; clear hr
 go_enter Tryz.func3, Tryz.ntmps3
 go_wp2_with fail
 obtain ⟨K1, hK1⟩ := nK W.heap.size; refine (newB_any B _ _ _ _ _ HR.o.len (HI0.o.oldRow HR.o.row) HN.o HI0.o.size).mono ?_; rintro e w2 ⟨rfl, ht, hb, hs⟩; rw [hK1] at ht ⊢; have H3 := kq (HI0.o.newTape ht hb hK1); clear ht hb hs hK1; go_wp2_with fail
 refine (plane_any B K1 _ (H3.o.tapeAt 0 rfl)).mono ?_; rintro e w5 ⟨pw4, ph4, pw1, pw1, ph1, ph1, pm4, pv4, ps4, rfl, hv, hm, ho, ht, hg⟩; have H6 := kq (H3.o.add (H3.o.next 0 rfl ht hg) ho); have HVps4 := kq hv; have HMps4 := kq hm; obtain ⟨pv4a, pv4c, rfl, _⟩ := ho.slc; clear hv hm ho ht hg; obtain ⟨D7, hD7⟩ := nK w5.heap.size; go_upto_region 3 with fail
 have H8 := kq (H6.o.alloc #[.int .i64 pw4, .int .i64 ph4, .int .i64 pm4, .slice pv4a ps4.length pv4c] 26 hD7); first | refine gK H8 ?_ | refine gL H8 ?_ | refine gC H8 ?_
 clear H8; intro w9 H8; clear hD7; have z1 := H8.o.c4 0 rfl; go_wp2_with fail
 clear z1; refine (sized_any B K1 _ _ _ (by omega) (by omega) (by omega) (by omega) (H8.o.tapeAt 2 rfl)).mono ?_; rintro e w1 ⟨pm1, pv1, ps1, rfl, hv, hm, ho, ht, hg⟩; have H16 := kq (H8.o.add (H8.o.next 2 rfl ht hg) ho); have HVps1 := kq hv; have HMps1 := kq hm; obtain ⟨pv1a, pv1c, rfl, _⟩ := ho.slc; clear hv hm ho ht hg; obtain ⟨D1, hD1⟩ := nK w1.heap.size; go_upto_region 4 with fail
 have H1 := kq (H16.o.alloc #[.int .i64 pw4, .int .i64 ph4, .int .i64 pm1, .slice pv1a ps1.length pv1c] 26 hD1); first | refine gK H1 ?_ | refine gL H1 ?_ | refine gC H1 ?_
 clear H1; intro w1 H1; clear hD1; have z1 := H1.o.c4 2 rfl; go_wp2_with fail
 clear z1; refine (of17_any _ _ _ _ _ _ _).mono ?_; rintro e w1 ⟨rfl, hb⟩; have H2 := kq (H1.o.call hb); clear hb; go_wp2_with fail
 refine (stage_any K1 0 pw4 ph4 pm4 1 (by omega) (by omega) (show St B W [.tape K1, .cells D1 #[.int .i64 pw4, .int .i64 ph4, .int .i64 pm1, .slice pv1a ps1.length pv1c] 26, .own (.slice pv1a ps1.length pv1c) ps1, .cells D7 #[.int .i64 pw4, .int .i64 ph4, .int .i64 pm4, .slice pv4a ps4.length pv4c] 26, .own (.slice pv4a ps4.length pv4c) ps4] [] _ from H2.o.pick [4, 0, 1, 2, 3] rfl (by decide))).mono ?_; rintro e w1 ⟨⟨kd1, sa1, sb1, bar1, ep1, ef1, kw1, kh1, wa1, wc1, wl1, ra1, rc1, rl1, ca1, cc1, cl1, sh1, sh2, xa1, xn1, xc1, xp1, ya1, yn1, yc1, yp1, bins1, oa1, on1, oc1, ol1, mx1⟩, R1, rfl, ⟨ln1_0, ln1_1, ln1_2, ln1_3, ln1_4, ln1_5⟩, hqx, hqy, hst9⟩; simp only at ln1_0 ln1_1 ln1_2 ln1_3 ln1_4 ln1_5 hqx hqy; have H1 := kq (show St B W [.arr (59) 2 (.slice xa1 xn1 xc1) xn1 (tapV xp1), .arr (59) 2 (.slice ya1 yn1 yc1) yn1 (tapV yp1), .own (.slice wa1 wl1.length wc1) wl1, .own (.slice ra1 rl1.length rc1) rl1, .own (.slice ca1 cl1.length cc1) cl1, .arr (61) 2 (.slice oa1 on1 oc1) on1 (prV ol1), .tape K1, .cells D1 #[.int .i64 pw4, .int .i64 ph4, .int .i64 pm1, .slice pv1a ps1.length pv1c] 26, .own (.slice pv1a ps1.length pv1c) ps1, .cells D7 #[.int .i64 pw4, .int .i64 ph4, .int .i64 pm4, .slice pv4a ps4.length pv4c] 26, .own (.slice pv4a ps4.length pv4c) ps4] R1 w1 from hst9); clear hst9; have HQxp1 := kq hqx; have HQyp1 := kq hqy; clear hqx hqy; obtain ⟨A1, hA1⟩ : ∃ z : Array Value, Sg.val ⟨kd1, sa1, sb1, bar1, ep1, ef1, kw1, kh1, wa1, wc1, wl1, ra1, rc1, rl1, ca1, cc1, cl1, sh1, sh2, xa1, xn1, xc1, xp1, ya1, yn1, yc1, yp1, bins1, oa1, on1, oc1, ol1, mx1⟩ = z := ⟨_, rfl⟩; rw [hA1]; have HVA1 := kq hA1.symm; have HA1 := kq (show A1 = #[.int .i64 kd1, .int .i64 sa1, .int .i64 sb1, .bool bar1, .int .i64 ep1, .int .i64 ef1, .int .i64 kw1, .int .i64 kh1, .slice wa1 wl1.length wc1, .slice ra1 rl1.length rc1, .slice ca1 cl1.length cc1, .int .i64 sh1, .int .i64 sh2, .slice xa1 xn1 xc1, .slice ya1 yn1 yc1, .int .i64 bins1, .slice oa1 on1 oc1, .int .i64 mx1] from hA1.symm)
 clear hA1; obtain ⟨D2, hD1⟩ := nK w1.heap.size; have H2 := kq (H1.o.alloc #[.int .i64 0, .int .i64 0, .int .i64 0, .bool false, .int .i64 0, .int .i64 0, .int .i64 0, .int .i64 0, .slice none 0 0, .slice none 0 0, .slice none 0 0, .int .i64 0, .int .i64 0, .slice none 0 0, .slice none 0 0, .int .i64 0, .slice none 0 0, .int .i64 0] 34 hD1); go_upto_region 5 with (refine storeArm (H2.o.rowAt 0 rfl) (cs' := A1) (by rw [HA1.o]; first | rfl | kernel_rfl) (by rw [HA1.o]; first | rfl | kernel_rfl) (by rw [HA1.o]; first | rfl | kernel_rfl) (by rfl) (by rfl) (by rfl) ?_)
 clear H2; have H32 := kq (show St B W [.cells D2 A1 34, .arr (59) 2 (.slice xa1 xn1 xc1) xn1 (tapV xp1), .arr (59) 2 (.slice ya1 yn1 yc1) yn1 (tapV yp1), .own (.slice wa1 wl1.length wc1) wl1, .own (.slice ra1 rl1.length rc1) rl1, .own (.slice ca1 cl1.length cc1) cl1, .arr (61) 2 (.slice oa1 on1 oc1) on1 (prV ol1), .tape K1, .cells D1 #[.int .i64 pw4, .int .i64 ph4, .int .i64 pm1, .slice pv1a ps1.length pv1c] 26, .own (.slice pv1a ps1.length pv1c) ps1, .cells D7 #[.int .i64 pw4, .int .i64 ph4, .int .i64 pm4, .slice pv4a ps4.length pv4c] 26, .own (.slice pv4a ps4.length pv4c) ps4] R1 ((w1.alloc (.cells #[.int .i64 0, .int .i64 0, .int .i64 0, .bool false, .int .i64 0, .int .i64 0, .int .i64 0, .int .i64 0, .slice none 0 0, .slice none 0 0, .slice none 0 0, .int .i64 0, .int .i64 0, .slice none 0 0, .slice none 0 0, .int .i64 0, .slice none 0 0, .int .i64 0] 34)).setRow D2 A1) from ((H1.o.alloc #[.int .i64 0, .int .i64 0, .int .i64 0, .bool false, .int .i64 0, .int .i64 0, .int .i64 0, .int .i64 0, .slice none 0 0, .slice none 0 0, .slice none 0 0, .int .i64 0, .int .i64 0, .slice none 0 0, .slice none 0 0, .int .i64 0, .slice none 0 0, .int .i64 0] 34 hD1).setRow 0 rfl A1)); first | refine gK H32 ?_ | refine gL H32 ?_ | refine gC H32 ?_
 clear H32; intro w1 H32; clear hD1; go_wp2_with fail
 refine (nextB_any B K1 _ _ (by omega) (H32.o.tapeAt 7 rfl)).mono ?_; rintro e w1 ⟨x1, rfl, x1a, x1b, htn, hgn, hsn⟩; have H1 := kq (H32.o.next 7 rfl htn hgn); clear htn hgn hsn; go_upto_if 27 with fail
 go_cut [] (fun wx => ∃ (kd9 sa9 sb9 ep9 ef9 kw9 kh9 sh9 sh3 bins9 mx9 : Int) (bar9 : Bool) (wa9 ra9 ca9 xa9 ya9 oa9 : Option Addr) (wc9 rc9 cc9 xn9 xc9 yn9 yc9 on9 oc9 : Nat) (wl9 rl9 cl9 : List Int) (xp9 yp9 : List (Int × Ro)) (ol9 : List (Int × Int)) (R9 : List Ro) (A9 : Array Value), A9 = #[.int .i64 kd9, .int .i64 sa9, .int .i64 sb9, .bool bar9, .int .i64 ep9, .int .i64 ef9, .int .i64 kw9, .int .i64 kh9, .slice wa9 wl9.length wc9, .slice ra9 rl9.length rc9, .slice ca9 cl9.length cc9, .int .i64 sh9, .int .i64 sh3, .slice xa9 xn9 xc9, .slice ya9 yn9 yc9, .int .i64 bins9, .slice oa9 on9 oc9, .int .i64 mx9] ∧ TQ B R9 xp9 ∧ TQ B R9 yp9 ∧ St B W [.arr (59) 2 (.slice xa9 xn9 xc9) xn9 (tapV xp9), .arr (59) 2 (.slice ya9 yn9 yc9) yn9 (tapV yp9), .own (.slice wa9 wl9.length wc9) wl9, .own (.slice ra9 rl9.length rc9) rl9, .own (.slice ca9 cl9.length cc9) cl9, .arr (61) 2 (.slice oa9 on9 oc9) on9 (prV ol9), .cells D2 A9 34, .tape K1, .cells D1 #[.int .i64 pw4, .int .i64 ph4, .int .i64 pm1, .slice pv1a ps1.length pv1c] 26, .own (.slice pv1a ps1.length pv1c) ps1, .cells D7 #[.int .i64 pw4, .int .i64 ph4, .int .i64 pm4, .slice pv4a ps4.length pv4c] 26, .own (.slice pv4a ps4.length pv4c) ps4] R9 wx)
 case first =>
  rcases eqZ x1 0 with ⟨c1a, c1b, c1c, c1d, c1h⟩ | ⟨c1a, c1b, c1h⟩
  ·
   have z1 := H1.o.loadStg 0 rfl (by rw [HA1.o]; rfl)
   go_wp2_with (refine loadArm z1 (by rfl) (by rfl) ?_)
   clear z1; refine (spoilstage_A HVA1.o K1 ⟨by simp only; omega, by simp only; omega, by simp only; omega, by simp only; omega, by simp only; omega, by simp only; omega⟩ HQxp1.o HQyp1.o (show St B W [.arr (59) 2 (.slice xa1 xn1 xc1) xn1 (tapV xp1), .arr (59) 2 (.slice ya1 yn1 yc1) yn1 (tapV yp1), .own (.slice wa1 wl1.length wc1) wl1, .own (.slice ra1 rl1.length rc1) rl1, .own (.slice ca1 cl1.length cc1) cl1, .arr (61) 2 (.slice oa1 on1 oc1) on1 (prV ol1), .tape K1, .cells D2 A1 34, .cells D1 #[.int .i64 pw4, .int .i64 ph4, .int .i64 pm1, .slice pv1a ps1.length pv1c] 26, .own (.slice pv1a ps1.length pv1c) ps1, .cells D7 #[.int .i64 pw4, .int .i64 ph4, .int .i64 pm4, .slice pv4a ps4.length pv4c] 26, .own (.slice pv4a ps4.length pv4c) ps4] R1 _ from H1.o.pick [1, 2, 3, 4, 5, 6, 7, 0, 8, 9, 10, 11] rfl (by decide))).mono ?_; rintro e w1 ⟨⟨kd2, sa2, sb2, bar2, ep2, ef2, kw2, kh2, wa2, wc2, wl2, ra2, rc2, rl2, ca2, cc2, cl2, sh4, sh5, xa2, xn2, xc2, xp2, ya2, yn2, yc2, yp2, bins2, oa2, on2, oc2, ol2, mx2⟩, R2, rfl, ⟨ln1_0, ln1_1, ln1_2, ln1_3, ln1_4, ln1_5⟩, hqx, hqy, hst9⟩; simp only at ln1_0 ln1_1 ln1_2 ln1_3 ln1_4 ln1_5 hqx hqy; have H2 := kq (show St B W [.arr (59) 2 (.slice xa2 xn2 xc2) xn2 (tapV xp2), .arr (59) 2 (.slice ya2 yn2 yc2) yn2 (tapV yp2), .own (.slice wa2 wl2.length wc2) wl2, .own (.slice ra2 rl2.length rc2) rl2, .own (.slice ca2 cl2.length cc2) cl2, .arr (61) 2 (.slice oa2 on2 oc2) on2 (prV ol2), .tape K1, .cells D2 A1 34, .cells D1 #[.int .i64 pw4, .int .i64 ph4, .int .i64 pm1, .slice pv1a ps1.length pv1c] 26, .own (.slice pv1a ps1.length pv1c) ps1, .cells D7 #[.int .i64 pw4, .int .i64 ph4, .int .i64 pm4, .slice pv4a ps4.length pv4c] 26, .own (.slice pv4a ps4.length pv4c) ps4] R2 w1 from hst9)
   clear hst9; have HQxp2 := kq hqx; have HQyp2 := kq hqy; clear hqx hqy; obtain ⟨A2, hA1⟩ : ∃ z : Array Value, Sg.val ⟨kd2, sa2, sb2, bar2, ep2, ef2, kw2, kh2, wa2, wc2, wl2, ra2, rc2, rl2, ca2, cc2, cl2, sh4, sh5, xa2, xn2, xc2, xp2, ya2, yn2, yc2, yp2, bins2, oa2, on2, oc2, ol2, mx2⟩ = z := ⟨_, rfl⟩; rw [hA1]; have HVA1 := kq hA1.symm; have HA2 := kq (show A2 = #[.int .i64 kd2, .int .i64 sa2, .int .i64 sb2, .bool bar2, .int .i64 ep2, .int .i64 ef2, .int .i64 kw2, .int .i64 kh2, .slice wa2 wl2.length wc2, .slice ra2 rl2.length rc2, .slice ca2 cl2.length cc2, .int .i64 sh4, .int .i64 sh5, .slice xa2 xn2 xc2, .slice ya2 yn2 yc2, .int .i64 bins2, .slice oa2 on2 oc2, .int .i64 mx2] from hA1.symm); clear hA1
   go_wp2_with (refine storeArm (H2.o.rowAt 7 rfl) (cs' := A2) (by rw [HA2.o]; first | rfl | kernel_rfl) (by rw [HA1.o, HA2.o]; first | rfl | kernel_rfl) (by rw [HA2.o]; first | rfl | kernel_rfl) (by rfl) (by rfl) (by rfl) ?_)
   have H4 := kq (show St _ _ (_ :: _ :: _ :: _ :: _ :: _ :: _ :: .cells D2 A2 34 :: _) _ _ from (H2.o.setRow 7 rfl A2))
   go_meet
   exact ⟨kd2, sa2, sb2, ep2, ef2, kw2, kh2, sh4, sh5, bins2, mx2, bar2, wa2, ra2, ca2, xa2, ya2, oa2, wc2, rc2, cc2, xn2, xc2, yn2, yc2, on2, oc2, wl2, rl2, cl2, xp2, yp2, ol2, R2, A2, HA2.o, HQxp2.o, HQyp2.o, H4.o.pick [0, 1, 2, 3, 4, 5, 7, 6, 8, 9, 10, 11] rfl (by decide)⟩
  go_wp2_with fail
  go_meet
  exact ⟨kd1, sa1, sb1, ep1, ef1, kw1, kh1, sh1, sh2, bins1, mx1, bar1, wa1, ra1, ca1, xa1, ya1, oa1, wc1, rc1, cc1, xn1, xc1, yn1, yc1, on1, oc1, wl1, rl1, cl1, xp1, yp1, ol1, R1, A1, HA1.o, HQxp1.o, HQyp1.o, H1.o.pick [1, 2, 3, 4, 5, 6, 0, 7, 8, 9, 10, 11] rfl (by decide)⟩
 case rest =>
  obtain ⟨kd9, sa9, sb9, ep9, ef9, kw9, kh9, sh9, sh3, bins9, mx9, bar9, wa9, ra9, ca9, xa9, ya9, oa9, wc9, rc9, cc9, xn9, xc9, yn9, yc9, on9, oc9, wl9, rl9, cl9, xp9, yp9, ol9, R9, A9, hA9, hqx, hqy, hst⟩ := hcut; obtain ⟨u1, rfl⟩ : ∃ u1 : World, u1 = wc := ⟨_, rfl⟩; have H1 := kq hst; clear hst; have HA9 := kq hA9; have HQxp9 := kq hqx; have HQyp9 := kq hqy; clear hA9 hqx hqy; go_upto_region 7 with fail
  obtain ⟨co, hco⟩ := nK (shCode (sfOk kd9 sb9 ep9 ef9 kw9 kh9 wl9.length rl9.length cl9.length sh9 sh3 xn9 yn9 bins9 on9 mx9) kd9 sb9 ep9 ef9 kw9 kh9 wl9 rl9 cl9 sh9 sh3 (tapD xp9) (tapD yp9) bins9 ol9 mx9 pw4 ph4 pm4 pw4 ph4 pm1); have HCO := kq hco; clear hco; obtain ⟨t1, ht1⟩ := nK (shIf co (shW kd9 xn9 bins9 pw4)); have HT1 := kq ht1; clear ht1; obtain ⟨t2, ht2⟩ := nK (shIf co (shH kd9 yn9 ph4)); have HT2 := kq ht2; clear ht2; obtain ⟨t3, ht3⟩ := nK (shIf co (shM kd9 mx9 pw4 ph4 pm4)); have HT3 := kq ht3; clear ht3
  go_cut [7, 8] (fun s t wx => ∃ b7 : Nat, s = .pointer (some ⟨b7, 0, none⟩) ∧ t = .int .i64 co ∧ St B W [.cells b7 #[.int .i64 t1, .int .i64 t2, .int .i64 t3] 37, .arr (59) 2 (.slice xa9 xn9 xc9) xn9 (tapV xp9), .arr (59) 2 (.slice ya9 yn9 yc9) yn9 (tapV yp9), .own (.slice wa9 wl9.length wc9) wl9, .own (.slice ra9 rl9.length rc9) rl9, .own (.slice ca9 cl9.length cc9) cl9, .arr (61) 2 (.slice oa9 on9 oc9) on9 (prV ol9), .cells D2 A9 34, .tape K1, .cells D1 #[.int .i64 pw4, .int .i64 ph4, .int .i64 pm1, .slice pv1a ps1.length pv1c] 26, .own (.slice pv1a ps1.length pv1c) ps1, .cells D7 #[.int .i64 pw4, .int .i64 ph4, .int .i64 pm4, .slice pv4a ps4.length pv4c] 26, .own (.slice pv4a ps4.length pv4c) ps4] R9 wx)
  case first =>
   go_upto_region 7 with fail
   have H2 := kq H1.o.drew; refine wp_region_held_drew (S := (fun w' => w'.cell? ⟨D7, 0, none⟩ = some (.int .i64 pw4) ∧ w'.cell? ⟨D7, 1, none⟩ = some (.int .i64 ph4) ∧ w'.cell? ⟨D7, 2, none⟩ = some (.int .i64 pm4) ∧ w'.cell? ⟨D7, 3, none⟩ = some (.slice pv4a ps4.length pv4c) ∧ w'.cell? ⟨D1, 0, none⟩ = some (.int .i64 pw4) ∧ w'.cell? ⟨D1, 1, none⟩ = some (.int .i64 ph4) ∧ w'.cell? ⟨D1, 2, none⟩ = some (.int .i64 pm1) ∧ w'.cell? ⟨D1, 3, none⟩ = some (.slice pv1a ps1.length pv1c) ∧ (Instr.loadAt 34 (.pointer (some ⟨D2, 0, none⟩))).run Tryz.prog w' = .ok (.agg A9) w')) (by kernel_rfl) ⟨H2.o.cell 10 rfl 0 rfl, H2.o.cell 10 rfl 1 rfl, H2.o.cell 10 rfl 2 rfl, H2.o.cell 10 rfl 3 rfl, H2.o.cell 8 rfl 0 rfl, H2.o.cell 8 rfl 1 rfl, H2.o.cell 8 rfl 2 rfl, H2.o.cell 8 rfl 3 rfl, H2.o.loadStg 6 rfl (by rw [HA9.o]; rfl)⟩ (fun hHeld => ?_); generalize u1.drew = k1 at *; refine tkA 0 (v := .agg A9) ?_ (hy := fun wS hSw => loadExec hSw.2.2.2.2.2.2.2.2 (by rfl)); try simp only [pz]
   refine tk 1 ?_; refine tk 3 ?_; refine wpAnyH_ready (rs := [2, 9]) (by kernel_rfl) (by simp) (AllReadyH.cons (o := _) rfl (fun K hK => ?_) (AllReadyH.cons (o := _) rfl (fun K hK => ?_) AllReadyH.nil))
   ·
    go_simp
    go_at_call 8
    refine (of17_any _ _ _ _ _ _ _).mono ?_; rintro e w1 ⟨rfl, hb⟩; have H1 := kq (H2.o.call hb); clear hb; refine hK.out _ _ (by (try dsimp only); exact ⟨H1.o.cell 10 rfl 0 rfl, H1.o.cell 10 rfl 1 rfl, H1.o.cell 10 rfl 2 rfl, H1.o.cell 10 rfl 3 rfl, H1.o.cell 8 rfl 0 rfl, H1.o.cell 8 rfl 1 rfl, H1.o.cell 8 rfl 2 rfl, H1.o.cell 8 rfl 3 rfl, H1.o.loadStg 6 rfl (by rw [HA9.o]; rfl)⟩) ?_; clear hK K hHeld; intro hHeld; try simp only [pz]
    refine wpAnyH_ready (rs := [4, 9]) (by kernel_rfl) (by simp) (AllReadyH.cons (o := _) rfl (fun K hK => ?_) (AllReadyH.cons (o := _) rfl (fun K hK => ?_) AllReadyH.nil))
    ·
     go_simp
     go_at_call 8
     refine (of17_any _ _ _ _ _ _ _).mono ?_; rintro e w3 ⟨rfl, hb⟩; have H4 := kq (H1.o.call hb); clear hb; refine hK.out _ _ (by (try dsimp only); exact ⟨H4.o.cell 10 rfl 0 rfl, H4.o.cell 10 rfl 1 rfl, H4.o.cell 10 rfl 2 rfl, H4.o.cell 10 rfl 3 rfl, H4.o.cell 8 rfl 0 rfl, H4.o.cell 8 rfl 1 rfl, H4.o.cell 8 rfl 2 rfl, H4.o.cell 8 rfl 3 rfl, H4.o.loadStg 6 rfl (by rw [HA9.o]; rfl)⟩) ?_; clear hK K hHeld; intro hHeld; try simp only [pz]
     refine wpAnyH_ready (rs := [5, 9]) (by kernel_rfl) (by simp) (AllReadyH.cons (o := _) rfl (fun K hK => ?_) (AllReadyH.cons (o := _) rfl (fun K hK => ?_) AllReadyH.nil))
     ·
      go_simp
      go_at_call 11
      refine (of_any HA9.o wl9 rl9 cl9 (tapD xp9) (tapD yp9) ol9 pw4 ph4 pm4 pw4 ph4 pm1 _ (H4.o.slc 2 rfl) (H4.o.slc 3 rfl) (H4.o.slc 4 rfl) (H4.o.taps 0 rfl HQxp9.o) (H4.o.taps 1 rfl HQyp9.o) (H4.o.prs 5 rfl)).mono ?_; rintro e w4 ⟨rfl, hb⟩; have H5 := kq (H4.o.call hb); clear hb; simp only [HCO.o, HT1.o, HT2.o, HT3.o]; refine hK.out _ _ (by (try dsimp only); exact ⟨H5.o.cell 10 rfl 0 rfl, H5.o.cell 10 rfl 1 rfl, H5.o.cell 10 rfl 2 rfl, H5.o.cell 10 rfl 3 rfl, H5.o.cell 8 rfl 0 rfl, H5.o.cell 8 rfl 1 rfl, H5.o.cell 8 rfl 2 rfl, H5.o.cell 8 rfl 3 rfl, H5.o.loadStg 6 rfl (by rw [HA9.o]; rfl)⟩) ?_; clear hK K hHeld; intro hHeld; try simp only [pz]
      refine tk 6 ?_; refine tk 7 ?_; refine tk 8 ?_; refine rdy 9 fun K hK => ?_
      obtain ⟨D1, hD1⟩ := nK w4.heap.size; have H7 := kq (H5.o.alloc #[.int .i64 0, .int .i64 0, .int .i64 0] 37 hD1); go_simp
      refine hK.out _ _ (by (try dsimp only); exact ⟨H7.o.cell 11 rfl 0 rfl, H7.o.cell 11 rfl 1 rfl, H7.o.cell 11 rfl 2 rfl, H7.o.cell 11 rfl 3 rfl, H7.o.cell 9 rfl 0 rfl, H7.o.cell 9 rfl 1 rfl, H7.o.cell 9 rfl 2 rfl, H7.o.cell 9 rfl 3 rfl, H7.o.loadStg 7 rfl (by rw [HA9.o]; rfl)⟩) ?_; clear hK K hHeld; intro hHeld; try simp only [pz]
      clear hD1; generalize (w4.alloc (.cells #[.int .i64 0, .int .i64 0, .int .i64 0] 37)) = k2 at *; refine rdy 10 fun K hK => ?_
      have z1 := H7.o.f3 0 rfl; have H5 := kq (show St _ _ (.cells D1 #[.int .i64 t1, .int .i64 t2, .int .i64 t3] 37 :: _) _ _ from (((H7.o.set 0 rfl 0 (.int .i64 t1)).set 0 rfl 1 (.int .i64 t2)).set 0 rfl 2 (.int .i64 t3))); go_simp
      refine hK.out _ _ (by (try dsimp only); exact ⟨H5.o.cell 11 rfl 0 rfl, H5.o.cell 11 rfl 1 rfl, H5.o.cell 11 rfl 2 rfl, H5.o.cell 11 rfl 3 rfl, H5.o.cell 9 rfl 0 rfl, H5.o.cell 9 rfl 1 rfl, H5.o.cell 9 rfl 2 rfl, H5.o.cell 9 rfl 3 rfl, H5.o.loadStg 7 rfl (by rw [HA9.o]; rfl)⟩) ?_; clear hK K hHeld; intro hHeld; try simp only [pz]
      clear z1; generalize (((k2.setCell ⟨D1, 0, none⟩ (.int .i64 t1)).setCell ⟨D1, 1, none⟩ (.int .i64 t2)).setCell ⟨D1, 2, none⟩ (.int .i64 t3)) = k64 at *; refine tk 11 ?_; refine wpAnyH_done (by kernel_rfl) ?_ _; try clear hHeld
      go_wp2_with fail
      go_meet
      exact ⟨_, rfl, rfl, H5.o.pick [0, 1, 2, 3, 4, 5, 6, 7, 8, 9, 10, 11, 12] rfl (by decide)⟩
     obtain ⟨D1, hD1⟩ := nK w3.heap.size; have H5 := kq (H4.o.alloc #[.int .i64 0, .int .i64 0, .int .i64 0] 37 hD1); go_simp
     refine hK.out _ _ (by (try dsimp only); exact ⟨H5.o.cell 11 rfl 0 rfl, H5.o.cell 11 rfl 1 rfl, H5.o.cell 11 rfl 2 rfl, H5.o.cell 11 rfl 3 rfl, H5.o.cell 9 rfl 0 rfl, H5.o.cell 9 rfl 1 rfl, H5.o.cell 9 rfl 2 rfl, H5.o.cell 9 rfl 3 rfl, H5.o.loadStg 7 rfl (by rw [HA9.o]; rfl)⟩) ?_; clear hK K hHeld; intro hHeld; try simp only [pz]
     clear hD1; generalize (w3.alloc (.cells #[.int .i64 0, .int .i64 0, .int .i64 0] 37)) = k2 at *; refine rdy 5 fun K hK => ?_
     go_simp
     go_at_call 11
     refine (of_any HA9.o wl9 rl9 cl9 (tapD xp9) (tapD yp9) ol9 pw4 ph4 pm4 pw4 ph4 pm1 _ (H5.o.slc 3 rfl) (H5.o.slc 4 rfl) (H5.o.slc 5 rfl) (H5.o.taps 1 rfl HQxp9.o) (H5.o.taps 2 rfl HQyp9.o) (H5.o.prs 6 rfl)).mono ?_; rintro e w3 ⟨rfl, hb⟩; have H4 := kq (H5.o.call hb); clear hb; simp only [HCO.o, HT1.o, HT2.o, HT3.o]; refine hK.out _ _ (by (try dsimp only); exact ⟨H4.o.cell 11 rfl 0 rfl, H4.o.cell 11 rfl 1 rfl, H4.o.cell 11 rfl 2 rfl, H4.o.cell 11 rfl 3 rfl, H4.o.cell 9 rfl 0 rfl, H4.o.cell 9 rfl 1 rfl, H4.o.cell 9 rfl 2 rfl, H4.o.cell 9 rfl 3 rfl, H4.o.loadStg 7 rfl (by rw [HA9.o]; rfl)⟩) ?_; clear hK K hHeld; intro hHeld; try simp only [pz]
     refine tk 6 ?_; refine tk 7 ?_; refine tk 8 ?_; refine rdy 10 fun K hK => ?_
     have z1 := H4.o.f3 0 rfl; have H5 := kq (show St _ _ (.cells D1 #[.int .i64 t1, .int .i64 t2, .int .i64 t3] 37 :: _) _ _ from (((H4.o.set 0 rfl 0 (.int .i64 t1)).set 0 rfl 1 (.int .i64 t2)).set 0 rfl 2 (.int .i64 t3))); go_simp
     refine hK.out _ _ (by (try dsimp only); exact ⟨H5.o.cell 11 rfl 0 rfl, H5.o.cell 11 rfl 1 rfl, H5.o.cell 11 rfl 2 rfl, H5.o.cell 11 rfl 3 rfl, H5.o.cell 9 rfl 0 rfl, H5.o.cell 9 rfl 1 rfl, H5.o.cell 9 rfl 2 rfl, H5.o.cell 9 rfl 3 rfl, H5.o.loadStg 7 rfl (by rw [HA9.o]; rfl)⟩) ?_; clear hK K hHeld; intro hHeld; try simp only [pz]
     clear z1; generalize (((w3.setCell ⟨D1, 0, none⟩ (.int .i64 t1)).setCell ⟨D1, 1, none⟩ (.int .i64 t2)).setCell ⟨D1, 2, none⟩ (.int .i64 t3)) = k2 at *; refine tk 11 ?_; refine wpAnyH_done (by kernel_rfl) ?_ _; try clear hHeld
     go_wp2_with fail
     go_meet
     exact ⟨_, rfl, rfl, H5.o.pick [0, 1, 2, 3, 4, 5, 6, 7, 8, 9, 10, 11, 12] rfl (by decide)⟩
    obtain ⟨D1, hD1⟩ := nK w1.heap.size; have H4 := kq (H1.o.alloc #[.int .i64 0, .int .i64 0, .int .i64 0] 37 hD1); go_simp
    refine hK.out _ _ (by (try dsimp only); exact ⟨H4.o.cell 11 rfl 0 rfl, H4.o.cell 11 rfl 1 rfl, H4.o.cell 11 rfl 2 rfl, H4.o.cell 11 rfl 3 rfl, H4.o.cell 9 rfl 0 rfl, H4.o.cell 9 rfl 1 rfl, H4.o.cell 9 rfl 2 rfl, H4.o.cell 9 rfl 3 rfl, H4.o.loadStg 7 rfl (by rw [HA9.o]; rfl)⟩) ?_; clear hK K hHeld; intro hHeld; try simp only [pz]
    clear hD1; generalize (w1.alloc (.cells #[.int .i64 0, .int .i64 0, .int .i64 0] 37)) = k2 at *; refine rdy 4 fun K hK => ?_
    go_simp
    go_at_call 8
    refine (of17_any _ _ _ _ _ _ _).mono ?_; rintro e w1 ⟨rfl, hb⟩; have H1 := kq (H4.o.call hb); clear hb; refine hK.out _ _ (by (try dsimp only); exact ⟨H1.o.cell 11 rfl 0 rfl, H1.o.cell 11 rfl 1 rfl, H1.o.cell 11 rfl 2 rfl, H1.o.cell 11 rfl 3 rfl, H1.o.cell 9 rfl 0 rfl, H1.o.cell 9 rfl 1 rfl, H1.o.cell 9 rfl 2 rfl, H1.o.cell 9 rfl 3 rfl, H1.o.loadStg 7 rfl (by rw [HA9.o]; rfl)⟩) ?_; clear hK K hHeld; intro hHeld; try simp only [pz]
    refine rdy 5 fun K hK => ?_
    go_simp
    go_at_call 11
    refine (of_any HA9.o wl9 rl9 cl9 (tapD xp9) (tapD yp9) ol9 pw4 ph4 pm4 pw4 ph4 pm1 _ (H1.o.slc 3 rfl) (H1.o.slc 4 rfl) (H1.o.slc 5 rfl) (H1.o.taps 1 rfl HQxp9.o) (H1.o.taps 2 rfl HQyp9.o) (H1.o.prs 6 rfl)).mono ?_; rintro e w1 ⟨rfl, hb⟩; have H4 := kq (H1.o.call hb); clear hb; simp only [HCO.o, HT1.o, HT2.o, HT3.o]; refine hK.out _ _ (by (try dsimp only); exact ⟨H4.o.cell 11 rfl 0 rfl, H4.o.cell 11 rfl 1 rfl, H4.o.cell 11 rfl 2 rfl, H4.o.cell 11 rfl 3 rfl, H4.o.cell 9 rfl 0 rfl, H4.o.cell 9 rfl 1 rfl, H4.o.cell 9 rfl 2 rfl, H4.o.cell 9 rfl 3 rfl, H4.o.loadStg 7 rfl (by rw [HA9.o]; rfl)⟩) ?_; clear hK K hHeld; intro hHeld; try simp only [pz]
    refine tk 6 ?_; refine tk 7 ?_; refine tk 8 ?_; refine rdy 10 fun K hK => ?_
    have z1 := H4.o.f3 0 rfl; have H1 := kq (show St _ _ (.cells D1 #[.int .i64 t1, .int .i64 t2, .int .i64 t3] 37 :: _) _ _ from (((H4.o.set 0 rfl 0 (.int .i64 t1)).set 0 rfl 1 (.int .i64 t2)).set 0 rfl 2 (.int .i64 t3))); go_simp
    refine hK.out _ _ (by (try dsimp only); exact ⟨H1.o.cell 11 rfl 0 rfl, H1.o.cell 11 rfl 1 rfl, H1.o.cell 11 rfl 2 rfl, H1.o.cell 11 rfl 3 rfl, H1.o.cell 9 rfl 0 rfl, H1.o.cell 9 rfl 1 rfl, H1.o.cell 9 rfl 2 rfl, H1.o.cell 9 rfl 3 rfl, H1.o.loadStg 7 rfl (by rw [HA9.o]; rfl)⟩) ?_; clear hK K hHeld; intro hHeld; try simp only [pz]
    clear z1; generalize (((w1.setCell ⟨D1, 0, none⟩ (.int .i64 t1)).setCell ⟨D1, 1, none⟩ (.int .i64 t2)).setCell ⟨D1, 2, none⟩ (.int .i64 t3)) = k2 at *; refine tk 11 ?_; refine wpAnyH_done (by kernel_rfl) ?_ _; try clear hHeld
    go_wp2_with fail
    go_meet
    exact ⟨_, rfl, rfl, H1.o.pick [0, 1, 2, 3, 4, 5, 6, 7, 8, 9, 10, 11, 12] rfl (by decide)⟩
   obtain ⟨D1, hD1⟩ := nK k1.heap.size; have H1 := kq (H2.o.alloc #[.int .i64 0, .int .i64 0, .int .i64 0] 37 hD1); go_simp
   refine hK.out _ _ (by (try dsimp only); exact ⟨H1.o.cell 11 rfl 0 rfl, H1.o.cell 11 rfl 1 rfl, H1.o.cell 11 rfl 2 rfl, H1.o.cell 11 rfl 3 rfl, H1.o.cell 9 rfl 0 rfl, H1.o.cell 9 rfl 1 rfl, H1.o.cell 9 rfl 2 rfl, H1.o.cell 9 rfl 3 rfl, H1.o.loadStg 7 rfl (by rw [HA9.o]; rfl)⟩) ?_; clear hK K hHeld; intro hHeld; try simp only [pz]
   clear hD1; generalize (k1.alloc (.cells #[.int .i64 0, .int .i64 0, .int .i64 0] 37)) = k1 at *; refine rdy 2 fun K hK => ?_
   go_simp
   go_at_call 8
   refine (of17_any _ _ _ _ _ _ _).mono ?_; rintro e w1 ⟨rfl, hb⟩; have H2 := kq (H1.o.call hb); clear hb; refine hK.out _ _ (by (try dsimp only); exact ⟨H2.o.cell 11 rfl 0 rfl, H2.o.cell 11 rfl 1 rfl, H2.o.cell 11 rfl 2 rfl, H2.o.cell 11 rfl 3 rfl, H2.o.cell 9 rfl 0 rfl, H2.o.cell 9 rfl 1 rfl, H2.o.cell 9 rfl 2 rfl, H2.o.cell 9 rfl 3 rfl, H2.o.loadStg 7 rfl (by rw [HA9.o]; rfl)⟩) ?_; clear hK K hHeld; intro hHeld; try simp only [pz]
   refine rdy 4 fun K hK => ?_
   go_simp
   go_at_call 8
   refine (of17_any _ _ _ _ _ _ _).mono ?_; rintro e w1 ⟨rfl, hb⟩; have H1 := kq (H2.o.call hb); clear hb; refine hK.out _ _ (by (try dsimp only); exact ⟨H1.o.cell 11 rfl 0 rfl, H1.o.cell 11 rfl 1 rfl, H1.o.cell 11 rfl 2 rfl, H1.o.cell 11 rfl 3 rfl, H1.o.cell 9 rfl 0 rfl, H1.o.cell 9 rfl 1 rfl, H1.o.cell 9 rfl 2 rfl, H1.o.cell 9 rfl 3 rfl, H1.o.loadStg 7 rfl (by rw [HA9.o]; rfl)⟩) ?_; clear hK K hHeld; intro hHeld; try simp only [pz]
   refine rdy 5 fun K hK => ?_
   go_simp
   go_at_call 11
   refine (of_any HA9.o wl9 rl9 cl9 (tapD xp9) (tapD yp9) ol9 pw4 ph4 pm4 pw4 ph4 pm1 _ (H1.o.slc 3 rfl) (H1.o.slc 4 rfl) (H1.o.slc 5 rfl) (H1.o.taps 1 rfl HQxp9.o) (H1.o.taps 2 rfl HQyp9.o) (H1.o.prs 6 rfl)).mono ?_; rintro e w1 ⟨rfl, hb⟩; have H2 := kq (H1.o.call hb); clear hb; simp only [HCO.o, HT1.o, HT2.o, HT3.o]; refine hK.out _ _ (by (try dsimp only); exact ⟨H2.o.cell 11 rfl 0 rfl, H2.o.cell 11 rfl 1 rfl, H2.o.cell 11 rfl 2 rfl, H2.o.cell 11 rfl 3 rfl, H2.o.cell 9 rfl 0 rfl, H2.o.cell 9 rfl 1 rfl, H2.o.cell 9 rfl 2 rfl, H2.o.cell 9 rfl 3 rfl, H2.o.loadStg 7 rfl (by rw [HA9.o]; rfl)⟩) ?_; clear hK K hHeld; intro hHeld; try simp only [pz]
   refine tk 6 ?_; refine tk 7 ?_; refine tk 8 ?_; refine rdy 10 fun K hK => ?_
   have z1 := H2.o.f3 0 rfl; have H1 := kq (show St _ _ (.cells D1 #[.int .i64 t1, .int .i64 t2, .int .i64 t3] 37 :: _) _ _ from (((H2.o.set 0 rfl 0 (.int .i64 t1)).set 0 rfl 1 (.int .i64 t2)).set 0 rfl 2 (.int .i64 t3))); go_simp
   refine hK.out _ _ (by (try dsimp only); exact ⟨H1.o.cell 11 rfl 0 rfl, H1.o.cell 11 rfl 1 rfl, H1.o.cell 11 rfl 2 rfl, H1.o.cell 11 rfl 3 rfl, H1.o.cell 9 rfl 0 rfl, H1.o.cell 9 rfl 1 rfl, H1.o.cell 9 rfl 2 rfl, H1.o.cell 9 rfl 3 rfl, H1.o.loadStg 7 rfl (by rw [HA9.o]; rfl)⟩) ?_; clear hK K hHeld; intro hHeld; try simp only [pz]
   clear z1; generalize (((w1.setCell ⟨D1, 0, none⟩ (.int .i64 t1)).setCell ⟨D1, 1, none⟩ (.int .i64 t2)).setCell ⟨D1, 2, none⟩ (.int .i64 t3)) = k1 at *; refine tk 11 ?_; refine wpAnyH_done (by kernel_rfl) ?_ _; try clear hHeld
   go_wp2_with fail
   go_meet
   exact ⟨_, rfl, rfl, H1.o.pick [0, 1, 2, 3, 4, 5, 6, 7, 8, 9, 10, 11, 12] rfl (by decide)⟩
  case rest =>
   obtain ⟨b7, rfl, rfl, hst⟩ := hcut; obtain ⟨u1, rfl⟩ : ∃ u1 : World, u1 = wc := ⟨_, rfl⟩; have H1 := kq hst; clear hst; have z1 := H1.o.c4 11 rfl; have z5 := H1.o.c4 9 rfl; have z9 := H1.o.loadStg 7 rfl (by rw [HA9.o]; rfl)
   go_wp2_with (refine loadArm z9 (by rfl) (by rfl) ?_)
   clear z1 z5 z9; refine (rstage18_any HA9.o wl9 rl9 cl9 (tapD xp9) (tapD yp9) ol9 pw4 ph4 pm4 pv4a ps4.length pv4c ps4 pw4 ph4 pm1 pv1a ps1.length pv1c ps1 _ (H1.o.slc 3 rfl) (H1.o.slc 4 rfl) (H1.o.slc 5 rfl) (H1.o.taps 1 rfl HQxp9.o) (H1.o.taps 2 rfl HQyp9.o) (H1.o.prs 6 rfl) (H1.o.slc 12 rfl) (H1.o.slc 10 rfl) HVps4.o HVps1.o).mono ?_; rintro e w1 ⟨v8, rw8, rh8, rm8, L8, rfl, hz8, ho, hb⟩; rw [HCO.o] at hz8 ⊢; have HZ8 := kq hz8; have H2 := kq (H1.o.grow hb ho); obtain ⟨va8, vc8, rfl, _⟩ := ho.slc; clear ho hb hz8; obtain ⟨D1, hD1⟩ := nK w1.heap.size; go_upto_region 9 with fail
   have H1 := kq (H2.o.alloc #[.int .i64 rw8, .int .i64 rh8, .int .i64 rm8, .slice va8 L8.length vc8] 26 hD1); first | refine gK H1 ?_ | refine gL H1 ?_ | refine gC H1 ?_
   clear H1; intro w1 H1; clear hD1; have hne9 : ((co : Int) != co) = false := by simp
   rcases eqZ co 0 with ⟨c1a, c1b, c1c, c1d, c1h⟩ | ⟨c1a, c1b, c1h⟩
   ·
    go_upto_region 13 with fail
    have hz9 : co = 0 := by have := c1h.o; omega
    obtain ⟨r1, r2, r3, hpv⟩ := HZ8.o hz9; have HPV8 := kq hpv; have g1 : t1 = rw8 := by rw [r1, ← HT1.o, hz9]; exact if_pos rfl
    have e1 : ((rw8 : Int) == t1) = true := by rw [beq_iff_eq, g1]
    have g2 : t2 = rh8 := by rw [r2, ← HT2.o, hz9]; exact if_pos rfl
    have e2 : ((rh8 : Int) == t2) = true := by rw [beq_iff_eq, g2]
    have g3 : t3 = rm8 := by rw [r3, ← HT3.o, hz9]; exact if_pos rfl
    have e3 : ((rm8 : Int) == t3) = true := by rw [beq_iff_eq, g3]
    have HPO8 := kq (show pOk t1 t2 t3 = true from by rw [g1, g2, g3]; exact (pValid_iff.1 hpv).1); clear r1 r2 r3 hpv g1 g2 g3 hz9; have z1 := H1.o.c3 2 rfl; go_wp2_with fail
    clear z1; refine (shvalid_any _ _ _ _).mono ?_; rintro e w1 ⟨rfl, hb⟩; have H2 := kq (H1.o.call hb); clear hb; rw [HPO8.o]; have z1 := H2.o.c4 0 rfl; have z5 := H2.o.c3 2 rfl; go_wp2_with fail
    clear z1 z5; refine (qpvalid_any _ _ _ _ _ _ _ _ (by have := (H2.o.slc 1 rfl).nc; have := (H2.o.slc 1 rfl).cap; omega) (H2.o.slc 1 rfl).row).mono ?_; rintro e w1 ⟨rfl, hb⟩; have H4 := kq (H2.o.call hb); clear hb; rw [HPV8.o]; go_wp2_with fail
    refine (sane15 _).mono ?_; rintro e w1 ⟨rfl, hb⟩; have H2 := kq (H4.o.call hb); clear hb; go_wp2_with fail
    go_ret
    exact ⟨rfl, H2.o.bl⟩
   go_upto_region 12 with fail
   have e1 : t1 = 0 := by rw [← HT1.o]; exact if_neg (by have := c1h.o; omega)
   have e2 : t2 = 0 := by rw [← HT2.o]; exact if_neg (by have := c1h.o; omega)
   have e3 : t3 = 0 := by rw [← HT3.o]; exact if_neg (by have := c1h.o; omega)
   have z1 := H1.o.c3 2 rfl; go_wp2_with fail
   clear z1; refine (sane15 _).mono ?_; rintro e w1 ⟨rfl, hb⟩; have H2 := kq (H1.o.call hb); clear hb; go_wp2_with fail
   go_ret
   exact ⟨rfl, H2.o.bl⟩
end Go.Proofs.YteejjnhlfgjlaaaGreat
