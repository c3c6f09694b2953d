/-
 The walk of FootprintNeeds: the needed columns, rows and tiles are those of the reference.
-/
import Derived.Test.YtlidacfokgdlgaaSane16
import Derived.Test.YtlidacfokgdlgaaStTi2
import Derived.Test.YtlidacfokgdlgaaKL
import Derived.Test.YtlidacfokgdlgaaStage16
import Derived.Test.YtlidacfokgdlgaaKB
import Derived.Test.YtlidacfokgdlgaaKX
import Derived.Test.YtlidacfokgdlgaaKH
import Derived.Test.YtlidacfokgdlgaaKG
namespace Go.Proofs.Ytlidacfokgdlgaa
open Go.RowKit
attribute [local go_sem ↓] Go.wp_at_zero Go.wp_at_succ
set_option linter.unusedVariables false
set_option linter.unusedSimpArgs false

set_option maxRecDepth 100000 in
set_option maxHeartbeats 12800000 in
theorem walk_FootprintNeeds (a : Option Addr) (n c : Nat) (zs : List Int) (gn gf gt r0 r1 r2 r3 : Int) (W : World) (hr : RowIn .i64 W a n c zs) (_ : I64 gn) (_ : I64 gf) (_ : I64 gt) (_ : I64 r0) (_ : I64 r1) (_ : I64 r2) (_ : I64 r3) :
  Calls Try.prog 3 #[.slice a n c, .int .i64 gn, .int .i64 gf, .int .i64 gt, .agg #[.int .i64 r0, .int .i64 r1, .int .i64 r2, .int .i64 r3]] W fun e w' => e = .returned (.bool true) ∧ Below W.heap.size W w' := by
 obtain ⟨B, hB⟩ : ∃ B, W.heap.size = B := ⟨_, rfl⟩
 have HI0 := hid (St.init hB)
 have HN := hid (nearRow hr hB)
 have HR := hid hr
 clear hr
 go_enter Try.func3, Try.ntmps3
 go_upto_region 1 with fail
 have H1 := hid (show St B W [.cells B #[.int .i64 r0, .int .i64 r1, .int .i64 r2, .int .i64 r3] 24] [] (W.alloc (.cells #[.int .i64 r0, .int .i64 r1, .int .i64 r2, .int .i64 r3] 24)) from (HI0.out.alloc #[.int .i64 r0, .int .i64 r1, .int .i64 r2, .int .i64 r3] 24 hB))
 first | refine gen_code H1.out ?_ | refine gen_list H1.out ?_ | refine gen_calls H1.out ?_
 intro w2 hG
 clear H1
 have H1 := hid hG
 clear hG
 go_wp2_with fail
 obtain ⟨K3, hK3⟩ : ∃ D, w2.heap.size = D := ⟨_, rfl⟩
 refine (newB_any B _ _ _ _ _ HR.out.len (H1.out.oldRow HR.out.row) HN.out H1.out.size).mono ?_
 rintro e w4 ⟨rfl, ht, hb, hs⟩
 rw [hK3] at ht ⊢
 have H5 := hid (H1.out.newTape ht hb hK3)
 clear ht hb hs hK3
 go_wp2_with fail
 go_loopw [12] (fun i wr => ∃ j : Nat, j ≤ 5 ∧ i = .int .i64 j ∧ St B W [.tape K3, .cells B #[.int .i64 r0, .int .i64 r1, .int .i64 r2, .int .i64 r3] 24] [] wr) (fun i _ => 5 - (intOf i).toNat)
 case atStart => exact ⟨0, by omega, rfl, H5.out.pick [0, 1] rfl (by decide)⟩
 case round =>
  obtain ⟨j, hj, rfl, hst⟩ := hrel
  obtain ⟨u6, rfl⟩ : ∃ u6 : World, u6 = wr := ⟨_, rfl⟩
  have H7 := hid hst
  clear hst
  by_cases hj8 : j < 5
  ·
   skip
   have hj8' : (j : Int) < 5 := by omega
   go_wp2_with fail
   refine (nextB_any B K3 _ _ (by omega) (H7.out.tapeAt 0 rfl)).mono ?_
   rintro e w9 ⟨x8, rfl, x8a, x8b, htn, hgn, hsn⟩
   have H10 := hid (H7.out.next 0 rfl htn hgn)
   clear htn hgn hsn
   go_wp2_with fail
   refine (nextB_any B K3 _ _ (by omega) (H10.out.tapeAt 0 rfl)).mono ?_
   rintro e w12 ⟨x11, rfl, x11a, x11b, htn, hgn, hsn⟩
   have H13 := hid (H10.out.next 0 rfl htn hgn)
   clear htn hgn hsn
   go_wp2_with fail
   refine (stage16_any K3 (1 + x8) (1 + x11) (by omega) (by omega) (show St B W [.tape K3, .cells B #[.int .i64 r0, .int .i64 r1, .int .i64 r2, .int .i64 r3] 24] [] _ from H13.out.pick [0, 1] rfl (by decide))).mono ?_
   rintro e w15 ⟨⟨kd14, sa14, sb14, bar14, ep14, ef14, kw14, kh14, wa14, wc14, wl14, ra14, rc14, rl14, ca14, cc14, cl14, sh14, sh214, xa14, xn14, xc14, xp14, ya14, yn14, yc14, yp14, bins14, oa14, on14, oc14, ol14, mx14⟩, R17, rfl, ⟨ln14_0, ln14_1, ln14_2, ln14_3, ln14_4, ln14_5⟩, hqx, hqy, hst9⟩
   simp only at ln14_0 ln14_1 ln14_2 ln14_3 ln14_4 ln14_5 hqx hqy
   have H16 := hid (show St B W [.arr (68) 2 (.slice xa14 xn14 xc14) xn14 (tapV xp14), .arr (68) 2 (.slice ya14 yn14 yc14) yn14 (tapV yp14), .own (.slice wa14 wl14.length wc14) wl14, .own (.slice ra14 rl14.length rc14) rl14, .own (.slice ca14 cl14.length cc14) cl14, .arr (70) 2 (.slice oa14 on14 oc14) on14 (prV ol14), .tape K3, .cells B #[.int .i64 r0, .int .i64 r1, .int .i64 r2, .int .i64 r3] 24] R17 w15 from hst9)
   clear hst9
   have HQxp14 := hid hqx
   have HQyp14 := hid hqy
   clear hqx hqy
   obtain ⟨A14, hA14⟩ : ∃ z : Array Value, Sg.val ⟨kd14, sa14, sb14, bar14, ep14, ef14, kw14, kh14, wa14, wc14, wl14, ra14, rc14, rl14, ca14, cc14, cl14, sh14, sh214, xa14, xn14, xc14, xp14, ya14, yn14, yc14, yp14, bins14, oa14, on14, oc14, ol14, mx14⟩ = z := ⟨_, rfl⟩
   rw [hA14]
   have HVA14 := hid hA14.symm
   have HA14 := hid (show A14 = #[.int .i64 kd14, .int .i64 sa14, .int .i64 sb14, .bool bar14, .int .i64 ep14, .int .i64 ef14, .int .i64 kw14, .int .i64 kh14, .slice wa14 wl14.length wc14, .slice ra14 rl14.length rc14, .slice ca14 cl14.length cc14, .int .i64 sh14, .int .i64 sh214, .slice xa14 xn14 xc14, .slice ya14 yn14 yc14, .int .i64 bins14, .slice oa14 on14 oc14, .int .i64 mx14] from hA14.symm)
   clear hA14
   obtain ⟨D18, hD18⟩ : ∃ D, w15.heap.size = D := ⟨_, rfl⟩
   have H19 := hid (show St B W [.cells D18 #[.int .i64 0, .int .i64 0, .int .i64 0, .bool false, .int .i64 0, .int .i64 0, .int .i64 0, .int .i64 0, .slice none 0 0, .slice none 0 0, .slice none 0 0, .int .i64 0, .int .i64 0, .slice none 0 0, .slice none 0 0, .int .i64 0, .slice none 0 0, .int .i64 0] 33, .arr (68) 2 (.slice xa14 xn14 xc14) xn14 (tapV xp14), .arr (68) 2 (.slice ya14 yn14 yc14) yn14 (tapV yp14), .own (.slice wa14 wl14.length wc14) wl14, .own (.slice ra14 rl14.length rc14) rl14, .own (.slice ca14 cl14.length cc14) cl14, .arr (70) 2 (.slice oa14 on14 oc14) on14 (prV ol14), .tape K3, .cells B #[.int .i64 r0, .int .i64 r1, .int .i64 r2, .int .i64 r3] 24] R17 (w15.alloc (.cells #[.int .i64 0, .int .i64 0, .int .i64 0, .bool false, .int .i64 0, .int .i64 0, .int .i64 0, .int .i64 0, .slice none 0 0, .slice none 0 0, .slice none 0 0, .int .i64 0, .int .i64 0, .slice none 0 0, .slice none 0 0, .int .i64 0, .slice none 0 0, .int .i64 0] 33)) from (H16.out.alloc #[.int .i64 0, .int .i64 0, .int .i64 0, .bool false, .int .i64 0, .int .i64 0, .int .i64 0, .int .i64 0, .slice none 0 0, .slice none 0 0, .slice none 0 0, .int .i64 0, .int .i64 0, .slice none 0 0, .slice none 0 0, .int .i64 0, .slice none 0 0, .int .i64 0] 33 hD18))
   go_upto_region 7 with (refine storeArm (H19.out.rowAt 0 rfl) (cs' := A14) (by rw [HA14.out]; first | rfl | kernel_rfl) (by rw [HA14.out]; first | rfl | kernel_rfl) (by rw [HA14.out]; first | rfl | kernel_rfl) (by rfl) (by rfl) (by rfl) ?_)
   clear H19
   have H20 := hid (show St B W [.cells D18 A14 33, .arr (68) 2 (.slice xa14 xn14 xc14) xn14 (tapV xp14), .arr (68) 2 (.slice ya14 yn14 yc14) yn14 (tapV yp14), .own (.slice wa14 wl14.length wc14) wl14, .own (.slice ra14 rl14.length rc14) rl14, .own (.slice ca14 cl14.length cc14) cl14, .arr (70) 2 (.slice oa14 on14 oc14) on14 (prV ol14), .tape K3, .cells B #[.int .i64 r0, .int .i64 r1, .int .i64 r2, .int .i64 r3] 24] R17 ((w15.alloc (.cells #[.int .i64 0, .int .i64 0, .int .i64 0, .bool false, .int .i64 0, .int .i64 0, .int .i64 0, .int .i64 0, .slice none 0 0, .slice none 0 0, .slice none 0 0, .int .i64 0, .int .i64 0, .slice none 0 0, .slice none 0 0, .int .i64 0, .slice none 0 0, .int .i64 0] 33)).setRow D18 A14) from ((H16.out.alloc #[.int .i64 0, .int .i64 0, .int .i64 0, .bool false, .int .i64 0, .int .i64 0, .int .i64 0, .int .i64 0, .slice none 0 0, .slice none 0 0, .slice none 0 0, .int .i64 0, .int .i64 0, .slice none 0 0, .slice none 0 0, .int .i64 0, .slice none 0 0, .int .i64 0] 33 hD18).setRow 0 rfl A14))
   first | refine gen_code H20.out ?_ | refine gen_list H20.out ?_ | refine gen_calls H20.out ?_
   intro w21 hG
   clear H20
   have H20 := hid hG
   clear hG
   clear hD18
   go_wp2_with fail
   refine (nextB_any B K3 _ _ (by omega) (H20.out.tapeAt 7 rfl)).mono ?_
   rintro e w23 ⟨x22, rfl, x22a, x22b, htn, hgn, hsn⟩
   have H24 := hid (H20.out.next 7 rfl htn hgn)
   clear htn hgn hsn
   go_wp2_with fail
   refine (nextB_any B K3 _ _ (by omega) (H24.out.tapeAt 7 rfl)).mono ?_
   rintro e w26 ⟨x25, rfl, x25a, x25b, htn, hgn, hsn⟩
   have H27 := hid (H24.out.next 7 rfl htn hgn)
   clear htn hgn hsn
   go_wp2_with fail
   refine (rectB_any B K3 _ (H27.out.tapeAt 7 rfl)).mono ?_
   rintro e w29 ⟨r28_0, r28_1, r28_2, r28_3, rfl, ht, hg⟩
   have H30 := hid (H27.out.next 7 rfl ht hg)
   clear ht hg
   obtain ⟨D31, hD31⟩ : ∃ D, w29.heap.size = D := ⟨_, rfl⟩
   go_upto_region 9 with fail
   have H32 := hid (show St B W [.cells D31 #[.int .i64 r28_0, .int .i64 r28_1, .int .i64 r28_2, .int .i64 r28_3] 24, .cells D18 A14 33, .arr (68) 2 (.slice xa14 xn14 xc14) xn14 (tapV xp14), .arr (68) 2 (.slice ya14 yn14 yc14) yn14 (tapV yp14), .own (.slice wa14 wl14.length wc14) wl14, .own (.slice ra14 rl14.length rc14) rl14, .own (.slice ca14 cl14.length cc14) cl14, .arr (70) 2 (.slice oa14 on14 oc14) on14 (prV ol14), .tape K3, .cells B #[.int .i64 r0, .int .i64 r1, .int .i64 r2, .int .i64 r3] 24] R17 (w29.alloc (.cells #[.int .i64 r28_0, .int .i64 r28_1, .int .i64 r28_2, .int .i64 r28_3] 24)) from (H30.out.alloc #[.int .i64 r28_0, .int .i64 r28_1, .int .i64 r28_2, .int .i64 r28_3] 24 hD31))
   first | refine gen_code H32.out ?_ | refine gen_list H32.out ?_ | refine gen_calls H32.out ?_
   intro w33 hG
   clear H32
   have H32 := hid hG
   clear hG
   clear hD31
   go_upto_if 46 with fail
   go_cut [16, 17, 18] (fun s1 s2 s3 wx => ∃ (ga gb gc q0 q1 q2 q3 : Int), s1 = .int .i64 ga ∧ s2 = .int .i64 gb ∧ s3 = .int .i64 gc ∧ St B W [.cells D31 #[.int .i64 q0, .int .i64 q1, .int .i64 q2, .int .i64 q3] 24, .cells D18 A14 33, .arr (68) 2 (.slice xa14 xn14 xc14) xn14 (tapV xp14), .arr (68) 2 (.slice ya14 yn14 yc14) yn14 (tapV yp14), .own (.slice wa14 wl14.length wc14) wl14, .own (.slice ra14 rl14.length rc14) rl14, .own (.slice ca14 cl14.length cc14) cl14, .arr (70) 2 (.slice oa14 on14 oc14) on14 (prV ol14), .tape K3, .cells B #[.int .i64 r0, .int .i64 r1, .int .i64 r2, .int .i64 r3] 24] R17 wx)
   case first =>
    by_cases hN : j = 4
    ·
     skip
     have hN4 : ((j : Int) == 4) = true := by simp; omega
     clear hN
     go_upto_region 10 with fail
     have H34 := hid H32.out.drew
     refine wp_region_held_drew (S := (fun w' => w'.cell? ⟨B, 0, none⟩ = some (.int .i64 r0) ∧ w'.cell? ⟨B, 1, none⟩ = some (.int .i64 r1) ∧ w'.cell? ⟨B, 2, none⟩ = some (.int .i64 r2) ∧ w'.cell? ⟨B, 3, none⟩ = some (.int .i64 r3))) (by kernel_rfl) ⟨H34.out.cell 9 rfl 0 rfl, H34.out.cell 9 rfl 1 rfl, H34.out.cell 9 rfl 2 rfl, H34.out.cell 9 rfl 3 rfl⟩ (fun hHeld => ?_)
     generalize w33.drew = k35 at *
     refine tkA 0 ?_
     try simp only [Act.put, p1, p2, p3, p4, p5, p6]
     refine tkA 1 ?_
     try simp only [Act.put, p1, p2, p3, p4, p5, p6]
     refine tkA 2 ?_
     try simp only [Act.put, p1, p2, p3, p4, p5, p6]
     refine tkA 3 ?_
     try simp only [Act.put, p1, p2, p3, p4, p5, p6]
     refine tkA 4 ?_
     try simp only [Act.put, p1, p2, p3, p4, p5, p6]
     refine tkA 5 ?_
     try simp only [Act.put, p1, p2, p3, p4, p5, p6]
     refine tkA 6 ?_
     try simp only [Act.put, p1, p2, p3, p4, p5, p6]
     refine wpAnyH_ready (rs := [7]) (by kernel_rfl) (by simp) (AllReadyH.cons (o := _) rfl (fun K hK => ?_) AllReadyH.nil)
     have z36 := H34.out.cell 0 rfl 0 rfl
     have z37 := H34.out.free 0 rfl 0
     have z38 := H34.out.cell 0 rfl 1 rfl
     have z39 := H34.out.free 0 rfl 1
     have z40 := H34.out.cell 0 rfl 2 rfl
     have z41 := H34.out.free 0 rfl 2
     have z42 := H34.out.cell 0 rfl 3 rfl
     have z43 := H34.out.free 0 rfl 3
     have H44 := hid (show St B W [.cells D31 #[.int .i64 r0, .int .i64 r1, .int .i64 r2, .int .i64 r3] 24, .cells D18 A14 33, .arr (68) 2 (.slice xa14 xn14 xc14) xn14 (tapV xp14), .arr (68) 2 (.slice ya14 yn14 yc14) yn14 (tapV yp14), .own (.slice wa14 wl14.length wc14) wl14, .own (.slice ra14 rl14.length rc14) rl14, .own (.slice ca14 cl14.length cc14) cl14, .arr (70) 2 (.slice oa14 on14 oc14) on14 (prV ol14), .tape K3, .cells B #[.int .i64 r0, .int .i64 r1, .int .i64 r2, .int .i64 r3] 24] R17 ((((k35.setCell ⟨D31, 0, none⟩ (.int .i64 r0)).setCell ⟨D31, 1, none⟩ (.int .i64 r1)).setCell ⟨D31, 2, none⟩ (.int .i64 r2)).setCell ⟨D31, 3, none⟩ (.int .i64 r3)) from (H34.out.set4 0 rfl (.int .i64 r0) (.int .i64 r1) (.int .i64 r2) (.int .i64 r3)))
     go_simp
     refine hK.out _ _ ?_ (fun hHeld2 => ?_)
     focus ((try dsimp only); (exact ⟨H44.out.cell 9 rfl 0 rfl, H44.out.cell 9 rfl 1 rfl, H44.out.cell 9 rfl 2 rfl, H44.out.cell 9 rfl 3 rfl⟩))
     clear hK K hHeld
     try simp only [Act.put, p1, p2, p3, p4, p5, p6]
     clear z36 z37 z38 z39 z40 z41 z42 z43
     generalize ((((k35.setCell ⟨D31, 0, none⟩ (.int .i64 r0)).setCell ⟨D31, 1, none⟩ (.int .i64 r1)).setCell ⟨D31, 2, none⟩ (.int .i64 r2)).setCell ⟨D31, 3, none⟩ (.int .i64 r3)) = k45 at *
     have hHeld := hHeld2
     clear hHeld2
     refine wpAnyH_done (by kernel_rfl) ?_ _
     try clear hHeld
     go_wp2_with fail
     go_meet
     exact ⟨gn, gf, gt, r0, r1, r2, r3, rfl, rfl, rfl, H44.out⟩
    ·
     skip
     have hN4 : ((j : Int) == 4) = false := by simp; omega
     clear hN
     go_wp2_with fail
     go_meet
     exact ⟨1 + x8, x22, x25, r28_0, r28_1, r28_2, r28_3, rfl, rfl, rfl, H32.out⟩
   case rest =>
    obtain ⟨ga, gb, gc, q0, q1, q2, q3, rfl, rfl, rfl, hst⟩ := hcut
    obtain ⟨u46, rfl⟩ : ∃ u46 : World, u46 = wc := ⟨_, rfl⟩
    have H47 := hid hst
    clear hst
    go_wp2_with fail
    refine (nextB_any B K3 _ _ (by omega) (H47.out.tapeAt 8 rfl)).mono ?_
    rintro e w49 ⟨x48, rfl, x48a, x48b, htn, hgn, hsn⟩
    have H50 := hid (H47.out.next 8 rfl htn hgn)
    clear htn hgn hsn
    go_wp2_with fail
    refine (nextB_any B K3 _ _ (by omega) (H50.out.tapeAt 8 rfl)).mono ?_
    rintro e w52 ⟨x51, rfl, x51a, x51b, htn, hgn, hsn⟩
    have H53 := hid (H50.out.next 8 rfl htn hgn)
    clear htn hgn hsn
    go_upto_region 12 with fail
    have H54 := hid H53.out.drew
    refine wp_region_held_drew (S := (fun w' => w'.cell? ⟨D31, 0, none⟩ = some (.int .i64 q0) ∧ w'.cell? ⟨D31, 1, none⟩ = some (.int .i64 q1) ∧ w'.cell? ⟨D31, 2, none⟩ = some (.int .i64 q2) ∧ w'.cell? ⟨D31, 3, none⟩ = some (.int .i64 q3) ∧ (Instr.loadAt 33 (.pointer (some ⟨D18, 0, none⟩))).run Try.prog w' = .ok (.agg A14) w')) (by kernel_rfl) ⟨H54.out.cell 0 rfl 0 rfl, H54.out.cell 0 rfl 1 rfl, H54.out.cell 0 rfl 2 rfl, H54.out.cell 0 rfl 3 rfl, H54.out.loadStg 1 rfl (by rw [HA14.out]; rfl)⟩ (fun hHeld => ?_)
    generalize w52.drew = k55 at *
    refine tkA 0 (v := .agg A14) ?_ (hy := fun wS hSw => loadExec hSw.2.2.2.2 (by rfl))
    try simp only [Act.put, p1, p2, p3, p4, p5, p6]
    refine tkA 1 ?_
    try simp only [Act.put, p1, p2, p3, p4, p5, p6]
    refine tkA 2 ?_
    try simp only [Act.put, p1, p2, p3, p4, p5, p6]
    refine tkA 3 ?_
    try simp only [Act.put, p1, p2, p3, p4, p5, p6]
    refine tkA 5 (v := .agg A14) ?_ (hy := fun wS hSw => loadExec hSw.2.2.2.2 (by rfl))
    try simp only [Act.put, p1, p2, p3, p4, p5, p6]
    refine tkA 6 ?_
    try simp only [Act.put, p1, p2, p3, p4, p5, p6]
    refine tkA 7 ?_
    try simp only [Act.put, p1, p2, p3, p4, p5, p6]
    refine tkA 8 ?_
    try simp only [Act.put, p1, p2, p3, p4, p5, p6]
    refine wpAnyH_ready (rs := [4]) (by kernel_rfl) (by simp) (AllReadyH.cons (o := _) rfl (fun K hK => ?_) AllReadyH.nil)
    go_simp
    go_at_call 12
    refine (columns_A HA14.out (tapD xp14) (tapD yp14) _ _ _ _ (H54.out.taps 2 rfl HQxp14.out) (H54.out.taps 3 rfl HQyp14.out)).mono ?_
    rintro e w56 ⟨v57, rfl, ho, hb⟩
    obtain ⟨l58, hl58⟩ : ∃ xx', stCol kd14 sb14 ep14 ef14 kw14 kh14 wl14.length rl14.length cl14.length sh14 sh214 xn14 yn14 bins14 on14 mx14 (tapD xp14) (tapD yp14) ga gb gc = xx' := ⟨_, rfl⟩
    rw [hl58] at ho
    have HNl58 := hid hl58
    clear hl58
    have H59 := hid (H54.out.grow hb ho)
    obtain ⟨v57a, v57c, rfl, _⟩ := ho.slc
    clear ho hb
    refine hK.out _ _ ?_ (fun hHeld2 => ?_)
    focus ((try dsimp only); (exact ⟨H59.out.cell 1 rfl 0 rfl, H59.out.cell 1 rfl 1 rfl, H59.out.cell 1 rfl 2 rfl, H59.out.cell 1 rfl 3 rfl, H59.out.loadStg 2 rfl (by rw [HA14.out]; rfl)⟩))
    clear hK K
    try simp only [Act.put, p1, p2, p3, p4, p5, p6]
    clear hHeld
    have hHeld := hHeld2
    clear hHeld2
    refine wpAnyH_ready (rs := [9]) (by kernel_rfl) (by simp) (AllReadyH.cons (o := _) rfl (fun K hK => ?_) AllReadyH.nil)
    go_simp
    go_at_call 13
    refine (rcolumns_A HA14.out (tapD xp14) (tapD yp14) _ _ _ _ (H59.out.taps 3 rfl HQxp14.out) (H59.out.taps 4 rfl HQyp14.out)).mono ?_
    rintro e w60 ⟨v61, rfl, ho, hb⟩
    rw [HNl58.out] at ho
    have H62 := hid (H59.out.grow hb ho)
    obtain ⟨v61a, v61c, rfl, _⟩ := ho.slc
    clear ho hb
    refine hK.out _ _ ?_ (fun hHeld2 => ?_)
    focus ((try dsimp only); (exact ⟨H62.out.cell 2 rfl 0 rfl, H62.out.cell 2 rfl 1 rfl, H62.out.cell 2 rfl 2 rfl, H62.out.cell 2 rfl 3 rfl, H62.out.loadStg 3 rfl (by rw [HA14.out]; rfl)⟩))
    clear hK K
    try simp only [Act.put, p1, p2, p3, p4, p5, p6]
    clear hHeld
    have hHeld := hHeld2
    clear hHeld2
    refine wpAnyH_ready (rs := [10]) (by kernel_rfl) (by simp) (AllReadyH.cons (o := _) rfl (fun K hK => ?_) AllReadyH.nil)
    go_simp
    go_at_call 11
    refine (qsame_any _ _ _ l58 _ _ _ l58 _ (H62.out.slc 1 rfl) (H62.out.slc 0 rfl)).mono ?_
    rintro e w63 ⟨rfl, m64, hdr⟩
    have H65 := hid (show St B W [.own (.slice v61a l58.length v61c) l58, .own (.slice v57a l58.length v57c) l58, .cells D31 #[.int .i64 q0, .int .i64 q1, .int .i64 q2, .int .i64 q3] 24, .cells D18 A14 33, .arr (68) 2 (.slice xa14 xn14 xc14) xn14 (tapV xp14), .arr (68) 2 (.slice ya14 yn14 yc14) yn14 (tapV yp14), .own (.slice wa14 wl14.length wc14) wl14, .own (.slice ra14 rl14.length rc14) rl14, .own (.slice ca14 cl14.length cc14) cl14, .arr (70) 2 (.slice oa14 on14 oc14) on14 (prV ol14), .tape K3, .cells B #[.int .i64 r0, .int .i64 r1, .int .i64 r2, .int .i64 r3] 24] R17 w63 from by rw [hdr]; exact H62.out.drewN m64)
    clear hdr
    rw [show lEq l58 l58 = true from decide_eq_true rfl]
    refine hK.out _ _ ?_ (fun hHeld2 => ?_)
    focus ((try dsimp only); (exact ⟨H65.out.cell 2 rfl 0 rfl, H65.out.cell 2 rfl 1 rfl, H65.out.cell 2 rfl 2 rfl, H65.out.cell 2 rfl 3 rfl, H65.out.loadStg 3 rfl (by rw [HA14.out]; rfl)⟩))
    clear hK K
    try simp only [Act.put, p1, p2, p3, p4, p5, p6]
    clear hHeld
    have hHeld := hHeld2
    clear hHeld2
    refine tkA 11 ?_
    try simp only [Act.put, p1, p2, p3, p4, p5, p6]
    refine tkA 12 ?_
    try simp only [Act.put, p1, p2, p3, p4, p5, p6]
    refine tkA 13 (v := .agg A14) ?_ (hy := fun wS hSw => loadExec hSw.2.2.2.2 (by rfl))
    try simp only [Act.put, p1, p2, p3, p4, p5, p6]
    refine tkA 14 ?_
    try simp only [Act.put, p1, p2, p3, p4, p5, p6]
    refine tkA 15 ?_
    try simp only [Act.put, p1, p2, p3, p4, p5, p6]
    refine tkA 16 ?_
    try simp only [Act.put, p1, p2, p3, p4, p5, p6]
    refine tkA 18 (v := .agg A14) ?_ (hy := fun wS hSw => loadExec hSw.2.2.2.2 (by rfl))
    try simp only [Act.put, p1, p2, p3, p4, p5, p6]
    refine tkA 19 ?_
    try simp only [Act.put, p1, p2, p3, p4, p5, p6]
    refine tkA 20 ?_
    try simp only [Act.put, p1, p2, p3, p4, p5, p6]
    refine tkA 21 ?_
    try simp only [Act.put, p1, p2, p3, p4, p5, p6]
    refine wpAnyH_ready (rs := [17]) (by kernel_rfl) (by simp) (AllReadyH.cons (o := _) rfl (fun K hK => ?_) AllReadyH.nil)
    go_simp
    go_at_call 14
    refine (rows_A HA14.out (tapD xp14) (tapD yp14) _ _ _ _ (H65.out.taps 4 rfl HQxp14.out) (H65.out.taps 5 rfl HQyp14.out)).mono ?_
    rintro e w66 ⟨v67, rfl, ho, hb⟩
    obtain ⟨l68, hl68⟩ : ∃ xx', stRow kd14 sb14 ep14 ef14 kw14 kh14 wl14.length rl14.length cl14.length sh14 sh214 xn14 yn14 bins14 on14 mx14 (tapD xp14) (tapD yp14) ga gb gc = xx' := ⟨_, rfl⟩
    rw [hl68] at ho
    have HNl68 := hid hl68
    clear hl68
    have H69 := hid (H65.out.grow hb ho)
    obtain ⟨v67a, v67c, rfl, _⟩ := ho.slc
    clear ho hb
    refine hK.out _ _ ?_ (fun hHeld2 => ?_)
    focus ((try dsimp only); (exact ⟨H69.out.cell 3 rfl 0 rfl, H69.out.cell 3 rfl 1 rfl, H69.out.cell 3 rfl 2 rfl, H69.out.cell 3 rfl 3 rfl, H69.out.loadStg 4 rfl (by rw [HA14.out]; rfl)⟩))
    clear hK K
    try simp only [Act.put, p1, p2, p3, p4, p5, p6]
    clear hHeld
    have hHeld := hHeld2
    clear hHeld2
    refine wpAnyH_ready (rs := [22]) (by kernel_rfl) (by simp) (AllReadyH.cons (o := _) rfl (fun K hK => ?_) AllReadyH.nil)
    go_simp
    go_at_call 15
    refine (rrows_A HA14.out (tapD xp14) (tapD yp14) _ _ _ _ (H69.out.taps 5 rfl HQxp14.out) (H69.out.taps 6 rfl HQyp14.out)).mono ?_
    rintro e w70 ⟨v71, rfl, ho, hb⟩
    rw [HNl68.out] at ho
    have H72 := hid (H69.out.grow hb ho)
    obtain ⟨v71a, v71c, rfl, _⟩ := ho.slc
    clear ho hb
    refine hK.out _ _ ?_ (fun hHeld2 => ?_)
    focus ((try dsimp only); (exact ⟨H72.out.cell 4 rfl 0 rfl, H72.out.cell 4 rfl 1 rfl, H72.out.cell 4 rfl 2 rfl, H72.out.cell 4 rfl 3 rfl, H72.out.loadStg 5 rfl (by rw [HA14.out]; rfl)⟩))
    clear hK K
    try simp only [Act.put, p1, p2, p3, p4, p5, p6]
    clear hHeld
    have hHeld := hHeld2
    clear hHeld2
    refine wpAnyH_ready (rs := [23]) (by kernel_rfl) (by simp) (AllReadyH.cons (o := _) rfl (fun K hK => ?_) AllReadyH.nil)
    go_simp
    go_at_call 11
    refine (qsame_any _ _ _ l68 _ _ _ l68 _ (H72.out.slc 1 rfl) (H72.out.slc 0 rfl)).mono ?_
    rintro e w73 ⟨rfl, m74, hdr⟩
    have H75 := hid (show St B W [.own (.slice v71a l68.length v71c) l68, .own (.slice v67a l68.length v67c) l68, .own (.slice v61a l58.length v61c) l58, .own (.slice v57a l58.length v57c) l58, .cells D31 #[.int .i64 q0, .int .i64 q1, .int .i64 q2, .int .i64 q3] 24, .cells D18 A14 33, .arr (68) 2 (.slice xa14 xn14 xc14) xn14 (tapV xp14), .arr (68) 2 (.slice ya14 yn14 yc14) yn14 (tapV yp14), .own (.slice wa14 wl14.length wc14) wl14, .own (.slice ra14 rl14.length rc14) rl14, .own (.slice ca14 cl14.length cc14) cl14, .arr (70) 2 (.slice oa14 on14 oc14) on14 (prV ol14), .tape K3, .cells B #[.int .i64 r0, .int .i64 r1, .int .i64 r2, .int .i64 r3] 24] R17 w73 from by rw [hdr]; exact H72.out.drewN m74)
    clear hdr
    rw [show lEq l68 l68 = true from decide_eq_true rfl]
    refine hK.out _ _ ?_ (fun hHeld2 => ?_)
    focus ((try dsimp only); (exact ⟨H75.out.cell 4 rfl 0 rfl, H75.out.cell 4 rfl 1 rfl, H75.out.cell 4 rfl 2 rfl, H75.out.cell 4 rfl 3 rfl, H75.out.loadStg 5 rfl (by rw [HA14.out]; rfl)⟩))
    clear hK K
    try simp only [Act.put, p1, p2, p3, p4, p5, p6]
    clear hHeld
    have hHeld := hHeld2
    clear hHeld2
    refine tkA 24 ?_
    try simp only [Act.put, p1, p2, p3, p4, p5, p6]
    refine tkA 25 ?_
    try simp only [Act.put, p1, p2, p3, p4, p5, p6]
    refine tkA 26 ?_
    try simp only [Act.put, p1, p2, p3, p4, p5, p6]
    refine tkA 27 (v := .agg A14) ?_ (hy := fun wS hSw => loadExec hSw.2.2.2.2 (by rfl))
    try simp only [Act.put, p1, p2, p3, p4, p5, p6]
    refine tkA 28 ?_
    try simp only [Act.put, p1, p2, p3, p4, p5, p6]
    refine tkA 29 ?_
    try simp only [Act.put, p1, p2, p3, p4, p5, p6]
    refine tkA 30 ?_
    try simp only [Act.put, p1, p2, p3, p4, p5, p6]
    refine tkA 31 ?_
    try simp only [Act.put, p1, p2, p3, p4, p5, p6]
    refine tkA 32 ?_
    try simp only [Act.put, p1, p2, p3, p4, p5, p6]
    refine tkA 34 (v := .agg A14) ?_ (hy := fun wS hSw => loadExec hSw.2.2.2.2 (by rfl))
    try simp only [Act.put, p1, p2, p3, p4, p5, p6]
    refine tkA 35 ?_
    try simp only [Act.put, p1, p2, p3, p4, p5, p6]
    refine tkA 36 ?_
    try simp only [Act.put, p1, p2, p3, p4, p5, p6]
    refine tkA 37 ?_
    try simp only [Act.put, p1, p2, p3, p4, p5, p6]
    refine tkA 38 ?_
    try simp only [Act.put, p1, p2, p3, p4, p5, p6]
    refine tkA 39 ?_
    try simp only [Act.put, p1, p2, p3, p4, p5, p6]
    refine wpAnyH_ready (rs := [33]) (by kernel_rfl) (by simp) (AllReadyH.cons (o := _) rfl (fun K hK => ?_) AllReadyH.nil)
    go_simp
    go_at_call 16
    refine (ftiles_any HA14.out (tapD xp14) (tapD yp14) _ _ _ _ _ _ _ _ _ (H75.out.taps 6 rfl HQxp14.out) (H75.out.taps 7 rfl HQyp14.out)).mono ?_
    rintro e w76 ⟨v77, rfl, ho, hb⟩
    obtain ⟨l78, hl78⟩ : ∃ xx', tlL (stCol kd14 sb14 ep14 ef14 kw14 kh14 wl14.length rl14.length cl14.length sh14 sh214 xn14 yn14 bins14 on14 mx14 (tapD xp14) (tapD yp14) (1 + x8) q0 q2) (stRow kd14 sb14 ep14 ef14 kw14 kh14 wl14.length rl14.length cl14.length sh14 sh214 xn14 yn14 bins14 on14 mx14 (tapD xp14) (tapD yp14) (1 + x11) q1 q3) (1 + x8) (1 + x11) (1 + x48) (1 + x51) = xx' := ⟨_, rfl⟩
    rw [hl78] at ho
    have HNl78 := hid hl78
    clear hl78
    have H79 := hid (H75.out.grow hb ho)
    obtain ⟨v77a, v77c, rfl, _⟩ := ho.slc
    clear ho hb
    refine hK.out _ _ ?_ (fun hHeld2 => ?_)
    focus ((try dsimp only); (exact ⟨H79.out.cell 5 rfl 0 rfl, H79.out.cell 5 rfl 1 rfl, H79.out.cell 5 rfl 2 rfl, H79.out.cell 5 rfl 3 rfl, H79.out.loadStg 6 rfl (by rw [HA14.out]; rfl)⟩))
    clear hK K
    try simp only [Act.put, p1, p2, p3, p4, p5, p6]
    clear hHeld
    have hHeld := hHeld2
    clear hHeld2
    refine wpAnyH_ready (rs := [40]) (by kernel_rfl) (by simp) (AllReadyH.cons (o := _) rfl (fun K hK => ?_) AllReadyH.nil)
    go_simp
    go_at_call 17
    refine (rtiles_any HA14.out (tapD xp14) (tapD yp14) _ _ _ _ _ _ _ _ _ (H79.out.taps 7 rfl HQxp14.out) (H79.out.taps 8 rfl HQyp14.out)).mono ?_
    rintro e w80 ⟨v81, rfl, ho, hb⟩
    rw [HNl78.out] at ho
    have H82 := hid (H79.out.grow hb ho)
    obtain ⟨v81a, v81c, rfl, _⟩ := ho.slc
    clear ho hb
    refine hK.out _ _ ?_ (fun hHeld2 => ?_)
    focus ((try dsimp only); (exact ⟨H82.out.cell 6 rfl 0 rfl, H82.out.cell 6 rfl 1 rfl, H82.out.cell 6 rfl 2 rfl, H82.out.cell 6 rfl 3 rfl, H82.out.loadStg 7 rfl (by rw [HA14.out]; rfl)⟩))
    clear hK K
    try simp only [Act.put, p1, p2, p3, p4, p5, p6]
    clear hHeld
    have hHeld := hHeld2
    clear hHeld2
    refine wpAnyH_ready (rs := [41]) (by kernel_rfl) (by simp) (AllReadyH.cons (o := _) rfl (fun K hK => ?_) AllReadyH.nil)
    go_simp
    go_at_call 11
    refine (qsame_any _ _ _ l78 _ _ _ l78 _ (H82.out.slc 1 rfl) (H82.out.slc 0 rfl)).mono ?_
    rintro e w83 ⟨rfl, m84, hdr⟩
    have H85 := hid (show St B W [.own (.slice v81a l78.length v81c) l78, .own (.slice v77a l78.length v77c) l78, .own (.slice v71a l68.length v71c) l68, .own (.slice v67a l68.length v67c) l68, .own (.slice v61a l58.length v61c) l58, .own (.slice v57a l58.length v57c) l58, .cells D31 #[.int .i64 q0, .int .i64 q1, .int .i64 q2, .int .i64 q3] 24, .cells D18 A14 33, .arr (68) 2 (.slice xa14 xn14 xc14) xn14 (tapV xp14), .arr (68) 2 (.slice ya14 yn14 yc14) yn14 (tapV yp14), .own (.slice wa14 wl14.length wc14) wl14, .own (.slice ra14 rl14.length rc14) rl14, .own (.slice ca14 cl14.length cc14) cl14, .arr (70) 2 (.slice oa14 on14 oc14) on14 (prV ol14), .tape K3, .cells B #[.int .i64 r0, .int .i64 r1, .int .i64 r2, .int .i64 r3] 24] R17 w83 from by rw [hdr]; exact H82.out.drewN m84)
    clear hdr
    rw [show lEq l78 l78 = true from decide_eq_true rfl]
    refine hK.out _ _ ?_ (fun hHeld2 => ?_)
    focus ((try dsimp only); (exact ⟨H85.out.cell 6 rfl 0 rfl, H85.out.cell 6 rfl 1 rfl, H85.out.cell 6 rfl 2 rfl, H85.out.cell 6 rfl 3 rfl, H85.out.loadStg 7 rfl (by rw [HA14.out]; rfl)⟩))
    clear hK K
    try simp only [Act.put, p1, p2, p3, p4, p5, p6]
    clear hHeld
    have hHeld := hHeld2
    clear hHeld2
    refine tkA 42 ?_
    try simp only [Act.put, p1, p2, p3, p4, p5, p6]
    refine tkA 43 ?_
    try simp only [Act.put, p1, p2, p3, p4, p5, p6]
    refine wpAnyH_done (by kernel_rfl) ?_ _
    try clear hHeld
    go_wp2_with fail
    go_roundw
    case rel => exact ⟨j + 1, by omega, by go_num, (H85.out.pick [14, 15] rfl (by decide)).noRo⟩
    case measure => first | (simp [intOf]; omega) | (simp [intOf]; done)
  ·
   skip
   have hj8' : ¬ ((j : Int) < 5) := by omega
   go_wp2_with fail
   refine (sane16 _).mono ?_
   rintro e w86 ⟨rfl, hb⟩
   have H87 := hid (H7.out.call hb)
   clear hb
   go_wp2_with fail
   go_ret
   exact ⟨rfl, by first | exact H87.out.below | exact H87.out.below'⟩
end Go.Proofs.Ytlidacfokgdlgaa
