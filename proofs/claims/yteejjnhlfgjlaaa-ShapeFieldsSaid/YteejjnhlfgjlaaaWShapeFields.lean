/-
 The walk of ShapeFields: a stage with a field that its kind does not use is never accepted; A and Barrier do not matter.
-/
import Derived.Test.YteejjnhlfgjlaaaSane15
import Derived.Test.YteejjnhlfgjlaaaShp3
import Derived.Test.YteejjnhlfgjlaaaSpSt
import Derived.Test.YteejjnhlfgjlaaaKX
import Derived.Test.YteejjnhlfgjlaaaKH
import Derived.Test.YteejjnhlfgjlaaaKG
namespace Go.Proofs.Yteejjnhlfgjlaaa
open Go.RowKit
attribute [local go_sem ↓] Go.wp_at_zero Go.wp_at_succ shape_eq shape_ne
set_option linter.unusedVariables false
set_option linter.unusedSimpArgs false

set_option maxRecDepth 100000 in
set_option maxHeartbeats 12800000 in
theorem walk_ShapeFields (a : Option Addr) (n c : Nat) (zs : List Int) (ia : Int) (W : World) (hr : RowIn .i64 W a n c zs) (_ : I64 ia) :
    Calls Try.prog 4 #[.slice a n c, .int .i64 ia] W fun e w' => e = .returned (.bool true) ∧ Below W.heap.size W w' := by
  obtain ⟨B, hB⟩ : ∃ B, W.heap.size = B := ⟨_, rfl⟩
  have HI0 := hid (St.init hB)
  have HN := hid (nearRow hr hB)
  have HR := hid hr
  clear hr
  go_enter Try.func4, Try.ntmps4
  go_wp2_with fail
  obtain ⟨K1, hK1⟩ : ∃ D, W.heap.size = D := ⟨_, rfl⟩
  refine (newB_any B _ _ _ _ _ HR.out.len (HI0.out.oldRow HR.out.row) HN.out HI0.out.size).mono ?_
  rintro e w2 ⟨rfl, ht, hb, hs⟩
  rw [hK1] at ht ⊢
  have H3 := hid (HI0.out.newTape ht hb hK1)
  clear ht hb hs hK1
  go_wp2_with fail
  refine (small_any K1 (show St B W [.tape K1] [] _ from H3.out.pick [0] rfl (by decide))).mono ?_
  rintro e w4 ⟨sm6_0, sm6_1, sm6_2, rfl, ⟨sm6a, sm6b⟩, ⟨sm6c, sm6d⟩, ⟨sm6e, sm6f⟩, hst9⟩
  have H5 := hid (show St B W [.tape K1] [] w4 from hst9)
  clear hst9
  obtain ⟨D7, hD7⟩ : ∃ D, w4.heap.size = D := ⟨_, rfl⟩
  go_upto_region 3 with fail
  have H8 := hid (H5.out.alloc #[.int .i64 sm6_0, .int .i64 sm6_1, .int .i64 sm6_2] 24 hD7)
  first | refine gen_code H8.out ?_ | refine gen_list H8.out ?_ | refine gen_calls H8.out ?_
  intro w9 hG
  clear H8
  have H8 := hid hG
  clear hG
  clear hD7
  have z10 := H8.out.cell 0 rfl 0 rfl
  have z11 := H8.out.cell 0 rfl 1 rfl
  have z12 := H8.out.cell 0 rfl 2 rfl
  go_wp2_with fail
  clear z10 z11 z12
  refine (stage_any K1 0 sm6_0 sm6_1 sm6_2 (-1) (by omega) (by omega) (show St B W [.tape K1, .cells D7 #[.int .i64 sm6_0, .int .i64 sm6_1, .int .i64 sm6_2] 24] [] _ from H8.out.pick [1, 0] rfl (by decide))).mono ?_
  rintro e w14 ⟨⟨kd13, sa13, sb13, bar13, ep13, ef13, kw13, kh13, wa13, wc13, wl13, ra13, rc13, rl13, ca13, cc13, cl13, sh13, sh213, xa13, xn13, xc13, xp13, ya13, yn13, yc13, yp13, bins13, oa13, on13, oc13, ol13, mx13⟩, R16, rfl, ⟨ln13_0, ln13_1, ln13_2, ln13_3, ln13_4, ln13_5⟩, hqx, hqy, hst9⟩
  simp only at ln13_0 ln13_1 ln13_2 ln13_3 ln13_4 ln13_5 hqx hqy
  have H15 := hid (show St B W [.arr (55) 2 (.slice xa13 xn13 xc13) xn13 (tapV xp13), .arr (55) 2 (.slice ya13 yn13 yc13) yn13 (tapV yp13), .own (.slice wa13 wl13.length wc13) wl13, .own (.slice ra13 rl13.length rc13) rl13, .own (.slice ca13 cl13.length cc13) cl13, .arr (57) 2 (.slice oa13 on13 oc13) on13 (prV ol13), .tape K1, .cells D7 #[.int .i64 sm6_0, .int .i64 sm6_1, .int .i64 sm6_2] 24] R16 w14 from hst9)
  clear hst9
  have HQxp13 := hid hqx
  have HQyp13 := hid hqy
  clear hqx hqy
  obtain ⟨A13, hA13⟩ : ∃ z : Array Value, Sg.val ⟨kd13, sa13, sb13, bar13, ep13, ef13, kw13, kh13, wa13, wc13, wl13, ra13, rc13, rl13, ca13, cc13, cl13, sh13, sh213, xa13, xn13, xc13, xp13, ya13, yn13, yc13, yp13, bins13, oa13, on13, oc13, ol13, mx13⟩ = z := ⟨_, rfl⟩
  rw [hA13]
  have HVA13 := hid hA13.symm
  have HA13 := hid (show A13 = #[.int .i64 kd13, .int .i64 sa13, .int .i64 sb13, .bool bar13, .int .i64 ep13, .int .i64 ef13, .int .i64 kw13, .int .i64 kh13, .slice wa13 wl13.length wc13, .slice ra13 rl13.length rc13, .slice ca13 cl13.length cc13, .int .i64 sh13, .int .i64 sh213, .slice xa13 xn13 xc13, .slice ya13 yn13 yc13, .int .i64 bins13, .slice oa13 on13 oc13, .int .i64 mx13] from hA13.symm)
  clear hA13
  obtain ⟨D17, hD17⟩ : ∃ D, w14.heap.size = D := ⟨_, rfl⟩
  have H18 := hid (H15.out.alloc #[.int .i64 0, .int .i64 0, .int .i64 0, .bool false, .int .i64 0, .int .i64 0, .int .i64 0, .int .i64 0, .slice none 0 0, .slice none 0 0, .slice none 0 0, .int .i64 0, .int .i64 0, .slice none 0 0, .slice none 0 0, .int .i64 0, .slice none 0 0, .int .i64 0] 33 hD17)
  go_upto_region 4 with (refine storeArm (H18.out.rowAt 0 rfl) (cs' := A13) (by rw [HA13.out]; first | rfl | kernel_rfl) (by rw [HA13.out]; first | rfl | kernel_rfl) (by rw [HA13.out]; first | rfl | kernel_rfl) (by rfl) (by rfl) (by rfl) ?_)
  clear H18
  have H19 := hid (show St B W [.cells D17 A13 33, .arr (55) 2 (.slice xa13 xn13 xc13) xn13 (tapV xp13), .arr (55) 2 (.slice ya13 yn13 yc13) yn13 (tapV yp13), .own (.slice wa13 wl13.length wc13) wl13, .own (.slice ra13 rl13.length rc13) rl13, .own (.slice ca13 cl13.length cc13) cl13, .arr (57) 2 (.slice oa13 on13 oc13) on13 (prV ol13), .tape K1, .cells D7 #[.int .i64 sm6_0, .int .i64 sm6_1, .int .i64 sm6_2] 24] R16 ((w14.alloc (.cells #[.int .i64 0, .int .i64 0, .int .i64 0, .bool false, .int .i64 0, .int .i64 0, .int .i64 0, .int .i64 0, .slice none 0 0, .slice none 0 0, .slice none 0 0, .int .i64 0, .int .i64 0, .slice none 0 0, .slice none 0 0, .int .i64 0, .slice none 0 0, .int .i64 0] 33)).setRow D17 A13) from ((H15.out.alloc #[.int .i64 0, .int .i64 0, .int .i64 0, .bool false, .int .i64 0, .int .i64 0, .int .i64 0, .int .i64 0, .slice none 0 0, .slice none 0 0, .slice none 0 0, .int .i64 0, .int .i64 0, .slice none 0 0, .slice none 0 0, .int .i64 0, .slice none 0 0, .int .i64 0] 33 hD17).setRow 0 rfl A13))
  first | refine gen_code H19.out ?_ | refine gen_list H19.out ?_ | refine gen_calls H19.out ?_
  intro w20 hG
  clear H19
  have H19 := hid hG
  clear hG
  clear hD17
  have z21 := H19.out.cell 8 rfl 0 rfl
  have z22 := H19.out.cell 8 rfl 1 rfl
  have z23 := H19.out.cell 8 rfl 2 rfl
  have z24 := H19.out.loadStg 0 rfl (by rw [HA13.out]; rfl)
  go_wp2_with (refine loadArm z24 (by rfl) (by rfl) ?_)
  clear z21 z22 z23 z24
  refine (of_any HA13.out wl13 rl13 cl13 (tapD xp13) (tapD yp13) ol13 sm6_0 sm6_1 sm6_2 sm6_0 sm6_1 sm6_2 _ (H19.out.slc 3 rfl) (H19.out.slc 4 rfl) (H19.out.slc 5 rfl) (H19.out.taps 1 rfl HQxp13.out) (H19.out.taps 2 rfl HQyp13.out) (H19.out.prs 6 rfl)).mono ?_
  rintro e w25 ⟨rfl, hb⟩
  have H26 := hid (H19.out.call hb)
  clear hb
  obtain ⟨c27, hc27⟩ : ∃ xx', shCode (sfOk kd13 sb13 ep13 ef13 kw13 kh13 wl13.length rl13.length cl13.length sh13 sh213 xn13 yn13 bins13 on13 mx13) kd13 sb13 ep13 ef13 kw13 kh13 wl13 rl13 cl13 sh13 sh213 (tapD xp13) (tapD yp13) bins13 ol13 mx13 sm6_0 sm6_1 sm6_2 sm6_0 sm6_1 sm6_2 = xx' := ⟨_, rfl⟩
  rw [hc27]
  have HNc27 := hid hc27
  clear hc27
  obtain ⟨t28, ht28⟩ : ∃ xx', shIf c27 (shW kd13 xn13 bins13 sm6_0) = xx' := ⟨_, rfl⟩
  rw [ht28]
  have HNt28 := hid ht28
  clear ht28
  obtain ⟨t29, ht29⟩ : ∃ xx', shIf c27 (shH kd13 yn13 sm6_1) = xx' := ⟨_, rfl⟩
  rw [ht29]
  have HNt29 := hid ht29
  clear ht29
  obtain ⟨t30, ht30⟩ : ∃ xx', shIf c27 (shM kd13 mx13 sm6_0 sm6_1 sm6_2) = xx' := ⟨_, rfl⟩
  rw [ht30]
  have HNt30 := hid ht30
  clear ht30
  obtain ⟨D31, hD31⟩ : ∃ D, w25.heap.size = D := ⟨_, rfl⟩
  go_upto_region 5 with fail
  have H32 := hid (H26.out.alloc #[.int .i64 t28, .int .i64 t29, .int .i64 t30] 24 hD31)
  first | refine gen_code H32.out ?_ | refine gen_list H32.out ?_ | refine gen_calls H32.out ?_
  intro w33 hG
  clear H32
  have H32 := hid hG
  clear hG
  clear hD31
  obtain ⟨D34, hD34⟩ : ∃ D, w33.heap.size = D := ⟨_, rfl⟩
  have z35 := H32.out.loadStg 1 rfl (by rw [HA13.out]; rfl)
  have H36 := hid (H32.out.alloc #[.int .i64 0, .int .i64 0, .int .i64 0, .bool false, .int .i64 0, .int .i64 0, .int .i64 0, .int .i64 0, .slice none 0 0, .slice none 0 0, .slice none 0 0, .int .i64 0, .int .i64 0, .slice none 0 0, .slice none 0 0, .int .i64 0, .slice none 0 0, .int .i64 0] 33 hD34)
  go_upto_region 6 with (first | (refine loadArm z35 (by rfl) (by rfl) ?_) | (refine storeArm (H36.out.rowAt 0 rfl) (cs' := A13) (by rw [HA13.out]; first | rfl | kernel_rfl) (by rw [HA13.out]; first | rfl | kernel_rfl) (by rw [HA13.out]; first | rfl | kernel_rfl) (by rfl) (by rfl) (by rfl) ?_))
  clear z35 H36
  have H37 := hid (show St B W [.cells D34 A13 33, .cells D31 #[.int .i64 t28, .int .i64 t29, .int .i64 t30] 24, .cells D17 A13 33, .arr (55) 2 (.slice xa13 xn13 xc13) xn13 (tapV xp13), .arr (55) 2 (.slice ya13 yn13 yc13) yn13 (tapV yp13), .own (.slice wa13 wl13.length wc13) wl13, .own (.slice ra13 rl13.length rc13) rl13, .own (.slice ca13 cl13.length cc13) cl13, .arr (57) 2 (.slice oa13 on13 oc13) on13 (prV ol13), .tape K1, .cells D7 #[.int .i64 sm6_0, .int .i64 sm6_1, .int .i64 sm6_2] 24] R16 ((w33.alloc (.cells #[.int .i64 0, .int .i64 0, .int .i64 0, .bool false, .int .i64 0, .int .i64 0, .int .i64 0, .int .i64 0, .slice none 0 0, .slice none 0 0, .slice none 0 0, .int .i64 0, .int .i64 0, .slice none 0 0, .slice none 0 0, .int .i64 0, .slice none 0 0, .int .i64 0] 33)).setRow D34 A13) from ((H32.out.alloc #[.int .i64 0, .int .i64 0, .int .i64 0, .bool false, .int .i64 0, .int .i64 0, .int .i64 0, .int .i64 0, .slice none 0 0, .slice none 0 0, .slice none 0 0, .int .i64 0, .int .i64 0, .slice none 0 0, .slice none 0 0, .int .i64 0, .slice none 0 0, .int .i64 0] 33 hD34).setRow 0 rfl A13))
  first | refine gen_code H37.out ?_ | refine gen_list H37.out ?_ | refine gen_calls H37.out ?_
  intro w38 hG
  clear H37
  have H37 := hid hG
  clear hG
  clear hD34
  have H39 := hid (show St B W [.cells D34 #[.int .i64 kd13, .int .i64 sa13, .int .i64 sb13, .bool bar13, .int .i64 ep13, .int .i64 ef13, .int .i64 kw13, .int .i64 kh13, .slice wa13 wl13.length wc13, .slice ra13 rl13.length rc13, .slice ca13 cl13.length cc13, .int .i64 sh13, .int .i64 sh213, .slice xa13 xn13 xc13, .slice ya13 yn13 yc13, .int .i64 bins13, .slice oa13 on13 oc13, .int .i64 mx13] 33, .cells D31 #[.int .i64 t28, .int .i64 t29, .int .i64 t30] 24, .cells D17 A13 33, .arr (55) 2 (.slice xa13 xn13 xc13) xn13 (tapV xp13), .arr (55) 2 (.slice ya13 yn13 yc13) yn13 (tapV yp13), .own (.slice wa13 wl13.length wc13) wl13, .own (.slice ra13 rl13.length rc13) rl13, .own (.slice ca13 cl13.length cc13) cl13, .arr (57) 2 (.slice oa13 on13 oc13) on13 (prV ol13), .tape K1, .cells D7 #[.int .i64 sm6_0, .int .i64 sm6_1, .int .i64 sm6_2] 24] R16 w38 from by have h9 := H37.out; rw [show Ch.cells D34 A13 33 = Ch.cells D34 #[.int .i64 kd13, .int .i64 sa13, .int .i64 sb13, .bool bar13, .int .i64 ep13, .int .i64 ef13, .int .i64 kw13, .int .i64 kh13, .slice wa13 wl13.length wc13, .slice ra13 rl13.length rc13, .slice ca13 cl13.length cc13, .int .i64 sh13, .int .i64 sh213, .slice xa13 xn13 xc13, .slice ya13 yn13 yc13, .int .i64 bins13, .slice oa13 on13 oc13, .int .i64 mx13] 33 from by rw [HA13.out]] at h9; exact h9)
  go_upto_region 6 with fail
  have H40 := hid H39.out.drew
  refine wp_region_held_drew (S := (fun w' => w'.cell? ⟨D17, 3, none⟩ = some (.bool bar13))) (by kernel_rfl) (H40.out.cell 2 rfl 3 (show A13[3]? = some (.bool bar13) from by rw [HA13.out]; rfl)) (fun hHeld => ?_)
  generalize w38.drew = k41 at *
  refine tkA 0 ?_
  try simp only [Act.put, p1, p2, p3, p4, p5, p6]
  refine tkA 1 ?_
  try simp only [Act.put, p1, p2, p3, p4, p5, p6]
  refine tkA 2 ?_
  try simp only [Act.put, p1, p2, p3, p4, p5, p6]
  refine tkA 3 ?_
  try simp only [Act.put, p1, p2, p3, p4, p5, p6]
  refine tkA 4 ?_
  try simp only [Act.put, p1, p2, p3, p4, p5, p6]
  refine wpAnyH_ready (rs := [5]) (by kernel_rfl) (by simp) (AllReadyH.cons (o := _) rfl (fun K hK => ?_) AllReadyH.nil)
  have z42 := H40.out.cell 0 rfl 1 rfl
  have z43 := H40.out.free 0 rfl 1
  have H44 := hid (show St _ _ (.cells D34 #[.int .i64 kd13, .int .i64 ia, .int .i64 sb13, .bool bar13, .int .i64 ep13, .int .i64 ef13, .int .i64 kw13, .int .i64 kh13, .slice wa13 wl13.length wc13, .slice ra13 rl13.length rc13, .slice ca13 cl13.length cc13, .int .i64 sh13, .int .i64 sh213, .slice xa13 xn13 xc13, .slice ya13 yn13 yc13, .int .i64 bins13, .slice oa13 on13 oc13, .int .i64 mx13] 33 :: _) _ _ from (H40.out.set 0 rfl 1 (.int .i64 ia)))
  go_simp
  refine hK.out _ _ ?_ (fun hHeld2 => ?_)
  focus ((try dsimp only); (exact H44.out.cell 2 rfl 3 (show A13[3]? = some (.bool bar13) from by rw [HA13.out]; rfl)))
  clear hK K hHeld
  try simp only [Act.put, p1, p2, p3, p4, p5, p6]
  clear z42 z43
  generalize (k41.setCell ⟨D34, 1, none⟩ (.int .i64 ia)) = k45 at *
  have hHeld := hHeld2
  clear hHeld2
  refine tkA 6 ?_
  try simp only [Act.put, p1, p2, p3, p4, p5, p6]
  refine wpAnyH_ready (rs := [7]) (by kernel_rfl) (by simp) (AllReadyH.cons (o := _) rfl (fun K hK => ?_) AllReadyH.nil)
  have z46 := H44.out.cell 0 rfl 3 rfl
  have z47 := H44.out.free 0 rfl 3
  have H48 := hid (show St _ _ (.cells D34 #[.int .i64 kd13, .int .i64 ia, .int .i64 sb13, .bool (!bar13), .int .i64 ep13, .int .i64 ef13, .int .i64 kw13, .int .i64 kh13, .slice wa13 wl13.length wc13, .slice ra13 rl13.length rc13, .slice ca13 cl13.length cc13, .int .i64 sh13, .int .i64 sh213, .slice xa13 xn13 xc13, .slice ya13 yn13 yc13, .int .i64 bins13, .slice oa13 on13 oc13, .int .i64 mx13] 33 :: _) _ _ from (H44.out.set 0 rfl 3 (.bool (!bar13))))
  go_simp
  refine hK.out _ _ ?_ (fun hHeld2 => ?_)
  focus ((try dsimp only); (exact H48.out.cell 2 rfl 3 (show A13[3]? = some (.bool bar13) from by rw [HA13.out]; rfl)))
  clear hK K hHeld
  try simp only [Act.put, p1, p2, p3, p4, p5, p6]
  clear z46 z47
  generalize (k45.setCell ⟨D34, 3, none⟩ (.bool (!bar13))) = k49 at *
  have hHeld := hHeld2
  clear hHeld2
  refine wpAnyH_done (by kernel_rfl) ?_ _
  try clear hHeld
  obtain ⟨A8, hA8⟩ : ∃ z : Array Value, #[.int .i64 kd13, .int .i64 ia, .int .i64 sb13, .bool (!bar13), .int .i64 ep13, .int .i64 ef13, .int .i64 kw13, .int .i64 kh13, .slice wa13 wl13.length wc13, .slice ra13 rl13.length rc13, .slice ca13 cl13.length cc13, .int .i64 sh13, .int .i64 sh213, .slice xa13 xn13 xc13, .slice ya13 yn13 yc13, .int .i64 bins13, .slice oa13 on13 oc13, .int .i64 mx13] = z := ⟨_, rfl⟩
  have H50 := H48; rw [hA8] at H50
  have HA8 := hid hA8.symm
  clear hA8
  have z51 := H50.out.cell 10 rfl 0 rfl
  have z52 := H50.out.cell 10 rfl 1 rfl
  have z53 := H50.out.cell 10 rfl 2 rfl
  have z54 := H50.out.loadStg 0 rfl (by rw [HA8.out]; rfl)
  go_wp2_with (refine loadArm z54 (by rfl) (by rfl) ?_)
  clear z51 z52 z53 z54
  refine (of_any HA8.out wl13 rl13 cl13 (tapD xp13) (tapD yp13) ol13 sm6_0 sm6_1 sm6_2 sm6_0 sm6_1 sm6_2 _ (H50.out.slc 5 rfl) (H50.out.slc 6 rfl) (H50.out.slc 7 rfl) (H50.out.taps 3 rfl HQxp13.out) (H50.out.taps 4 rfl HQyp13.out) (H50.out.prs 8 rfl)).mono ?_
  rintro e w55 ⟨rfl, hb⟩
  have H56 := hid (H50.out.call hb)
  clear hb
  rw [HNc27.out]
  rw [HNt28.out]
  rw [HNt29.out]
  rw [HNt30.out]
  obtain ⟨D57, hD57⟩ : ∃ D, w55.heap.size = D := ⟨_, rfl⟩
  go_upto_region 8 with fail
  have H58 := hid (H56.out.alloc #[.int .i64 t28, .int .i64 t29, .int .i64 t30] 24 hD57)
  first | refine gen_code H58.out ?_ | refine gen_list H58.out ?_ | refine gen_calls H58.out ?_
  intro w59 hG
  clear H58
  have H58 := hid hG
  clear hG
  clear hD57
  by_cases c60 : (kd13 : Int) = 4
  · obtain ⟨c60c, c60d⟩ : (kd13 : Int) ≤ 4 ∧ (4 : Int) ≤ kd13 := by omega
    have c60a : ((kd13 : Int) == (4)) = true := by simpa using c60
    have c60b : ((kd13 : Int) != (4)) = false := by simpa using c60
    have c60h := hid c60
    clear c60
    have z61 := H58.out.cell 2 rfl 0 rfl
    have z62 := H58.out.cell 2 rfl 1 rfl
    have z63 := H58.out.cell 2 rfl 2 rfl
    have z64 := H58.out.cell 0 rfl 0 rfl
    have z65 := H58.out.cell 0 rfl 1 rfl
    have z66 := H58.out.cell 0 rfl 2 rfl
    have z67 := H58.out.cell 3 rfl 0 (show A13[0]? = some (.int .i64 kd13) from by rw [HA13.out]; rfl)
    go_wp2_with fail
    clear z61 z62 z63 z64 z65 z66 z67
    refine (nextB_any B K1 _ _ (by omega) (H58.out.tapeAt 10 rfl)).mono ?_
    rintro e w69 ⟨x68, rfl, x68a, x68b, htn, hgn, hsn⟩
    have H70 := hid (H58.out.next 10 rfl htn hgn)
    clear htn hgn hsn
    have H71 := hid (show St B W [.cells D57 #[.int .i64 t28, .int .i64 t29, .int .i64 t30] 24, .cells D34 A8 33, .cells D31 #[.int .i64 t28, .int .i64 t29, .int .i64 t30] 24, .cells D17 #[.int .i64 kd13, .int .i64 sa13, .int .i64 sb13, .bool bar13, .int .i64 ep13, .int .i64 ef13, .int .i64 kw13, .int .i64 kh13, .slice wa13 wl13.length wc13, .slice ra13 rl13.length rc13, .slice ca13 cl13.length cc13, .int .i64 sh13, .int .i64 sh213, .slice xa13 xn13 xc13, .slice ya13 yn13 yc13, .int .i64 bins13, .slice oa13 on13 oc13, .int .i64 mx13] 33, .arr (55) 2 (.slice xa13 xn13 xc13) xn13 (tapV xp13), .arr (55) 2 (.slice ya13 yn13 yc13) yn13 (tapV yp13), .own (.slice wa13 wl13.length wc13) wl13, .own (.slice ra13 rl13.length rc13) rl13, .own (.slice ca13 cl13.length cc13) cl13, .arr (57) 2 (.slice oa13 on13 oc13) on13 (prV ol13), .tape K1, .cells D7 #[.int .i64 sm6_0, .int .i64 sm6_1, .int .i64 sm6_2] 24] R16 w69 from by have h9 := H70.out; rw [show Ch.cells D17 A13 33 = Ch.cells D17 #[.int .i64 kd13, .int .i64 sa13, .int .i64 sb13, .bool bar13, .int .i64 ep13, .int .i64 ef13, .int .i64 kw13, .int .i64 kh13, .slice wa13 wl13.length wc13, .slice ra13 rl13.length rc13, .slice ca13 cl13.length cc13, .int .i64 sh13, .int .i64 sh213, .slice xa13 xn13 xc13, .slice ya13 yn13 yc13, .int .i64 bins13, .slice oa13 on13 oc13, .int .i64 mx13] 33 from by rw [HA13.out]] at h9; exact h9)
    have z72 := H71.out.cell 3 rfl 17 rfl
    have z73 := H71.out.free 3 rfl 17
    go_upto_region 13 with fail
    clear z72 z73
    have H74 := hid (show St _ _ (_ :: _ :: _ :: .cells D17 #[.int .i64 kd13, .int .i64 sa13, .int .i64 sb13, .bool bar13, .int .i64 ep13, .int .i64 ef13, .int .i64 kw13, .int .i64 kh13, .slice wa13 wl13.length wc13, .slice ra13 rl13.length rc13, .slice ca13 cl13.length cc13, .int .i64 sh13, .int .i64 sh213, .slice xa13 xn13 xc13, .slice ya13 yn13 yc13, .int .i64 bins13, .slice oa13 on13 oc13, .int .i64 (1 + x68)] 33 :: _) _ _ from (H71.out.set 3 rfl 17 (.int .i64 (1 + x68))))
    first | refine gen_code H74.out ?_ | refine gen_list H74.out ?_ | refine gen_calls H74.out ?_
    intro w75 hG
    clear H74
    have H74 := hid hG
    clear hG
    obtain ⟨A9, hA9⟩ : ∃ z : Array Value, #[.int .i64 kd13, .int .i64 sa13, .int .i64 sb13, .bool bar13, .int .i64 ep13, .int .i64 ef13, .int .i64 kw13, .int .i64 kh13, .slice wa13 wl13.length wc13, .slice ra13 rl13.length rc13, .slice ca13 cl13.length cc13, .int .i64 sh13, .int .i64 sh213, .slice xa13 xn13 xc13, .slice ya13 yn13 yc13, .int .i64 bins13, .slice oa13 on13 oc13, .int .i64 (1 + x68)] = z := ⟨_, rfl⟩
    have H76 := H74; rw [hA9] at H76
    have HA9 := hid hA9.symm
    clear hA9
    have HBAD := hid (show (sfOk kd13 sb13 ep13 ef13 kw13 kh13 wl13.length rl13.length cl13.length sh13 sh213 xn13 yn13 bins13 on13 (1 + x68)) = false from by unfold sfOk; have := c60h.out; exact decide_eq_false (by omega))
    have z77 := H76.out.cell 11 rfl 0 rfl
    have z78 := H76.out.cell 11 rfl 1 rfl
    have z79 := H76.out.cell 11 rfl 2 rfl
    have z80 := H76.out.loadStg 3 rfl (by rw [HA9.out]; rfl)
    go_wp2_with (refine loadArm z80 (by rfl) (by rfl) ?_)
    clear z77 z78 z79 z80
    refine (of_any HA9.out wl13 rl13 cl13 (tapD xp13) (tapD yp13) ol13 sm6_0 sm6_1 sm6_2 sm6_0 sm6_1 sm6_2 _ (H76.out.slc 6 rfl) (H76.out.slc 7 rfl) (H76.out.slc 8 rfl) (H76.out.taps 4 rfl HQxp13.out) (H76.out.taps 5 rfl HQyp13.out) (H76.out.prs 9 rfl)).mono ?_
    rintro e w81 ⟨rfl, hb⟩
    have H82 := hid (H76.out.call hb)
    clear hb
    rw [show shCode (sfOk kd13 sb13 ep13 ef13 kw13 kh13 wl13.length rl13.length cl13.length sh13 sh213 xn13 yn13 bins13 on13 (1 + x68)) kd13 sb13 ep13 ef13 kw13 kh13 wl13 rl13 cl13 sh13 sh213 (tapD xp13) (tapD yp13) bins13 ol13 (1 + x68) sm6_0 sm6_1 sm6_2 sm6_0 sm6_1 sm6_2 = 1 from by unfold shCode; rw [HBAD.out]; rfl]
    simp only [show ∀ v, shIf 1 v = 0 from fun v => if_neg (by decide)]
    obtain ⟨D83, hD83⟩ : ∃ D, w81.heap.size = D := ⟨_, rfl⟩
    go_upto_region 14 with fail
    have H84 := hid (H82.out.alloc #[.int .i64 0, .int .i64 0, .int .i64 0] 24 hD83)
    first | refine gen_code H84.out ?_ | refine gen_list H84.out ?_ | refine gen_calls H84.out ?_
    intro w85 hG
    clear H84
    have H84 := hid hG
    clear hG
    clear hD83
    have z86 := H84.out.loadStg 4 rfl (by rw [HA9.out]; rfl)
    go_wp2_with (refine loadArm z86 (by rfl) (by rfl) ?_)
    clear z86
    refine (sfields_A HA9.out _).mono ?_
    rintro e w87 ⟨rfl, hb⟩
    have H88 := hid (H84.out.call hb)
    clear hb
    rw [HBAD.out]
    go_wp2_with fail
    refine (sane15 _).mono ?_
    rintro e w89 ⟨rfl, hb⟩
    have H90 := hid (H88.out.call hb)
    clear hb
    go_wp2_with fail
    go_ret
    exact ⟨rfl, by first | exact H90.out.below | exact H90.out.below'⟩
  · have c60a : ((kd13 : Int) == (4)) = false := by simpa using c60
    have c60b : ((kd13 : Int) != (4)) = true := by simpa using c60
    have c60h := hid c60
    clear c60
    have z91 := H58.out.cell 2 rfl 0 rfl
    have z92 := H58.out.cell 2 rfl 1 rfl
    have z93 := H58.out.cell 2 rfl 2 rfl
    have z94 := H58.out.cell 0 rfl 0 rfl
    have z95 := H58.out.cell 0 rfl 1 rfl
    have z96 := H58.out.cell 0 rfl 2 rfl
    have z97 := H58.out.cell 3 rfl 0 (show A13[0]? = some (.int .i64 kd13) from by rw [HA13.out]; rfl)
    go_wp2_with fail
    clear z91 z92 z93 z94 z95 z96 z97
    refine (nextB_any B K1 _ _ (by omega) (H58.out.tapeAt 10 rfl)).mono ?_
    rintro e w99 ⟨x98, rfl, x98a, x98b, htn, hgn, hsn⟩
    have H100 := hid (H58.out.next 10 rfl htn hgn)
    clear htn hgn hsn
    have H101 := hid (show St B W [.cells D57 #[.int .i64 t28, .int .i64 t29, .int .i64 t30] 24, .cells D34 A8 33, .cells D31 #[.int .i64 t28, .int .i64 t29, .int .i64 t30] 24, .cells D17 #[.int .i64 kd13, .int .i64 sa13, .int .i64 sb13, .bool bar13, .int .i64 ep13, .int .i64 ef13, .int .i64 kw13, .int .i64 kh13, .slice wa13 wl13.length wc13, .slice ra13 rl13.length rc13, .slice ca13 cl13.length cc13, .int .i64 sh13, .int .i64 sh213, .slice xa13 xn13 xc13, .slice ya13 yn13 yc13, .int .i64 bins13, .slice oa13 on13 oc13, .int .i64 mx13] 33, .arr (55) 2 (.slice xa13 xn13 xc13) xn13 (tapV xp13), .arr (55) 2 (.slice ya13 yn13 yc13) yn13 (tapV yp13), .own (.slice wa13 wl13.length wc13) wl13, .own (.slice ra13 rl13.length rc13) rl13, .own (.slice ca13 cl13.length cc13) cl13, .arr (57) 2 (.slice oa13 on13 oc13) on13 (prV ol13), .tape K1, .cells D7 #[.int .i64 sm6_0, .int .i64 sm6_1, .int .i64 sm6_2] 24] R16 w99 from by have h9 := H100.out; rw [show Ch.cells D17 A13 33 = Ch.cells D17 #[.int .i64 kd13, .int .i64 sa13, .int .i64 sb13, .bool bar13, .int .i64 ep13, .int .i64 ef13, .int .i64 kw13, .int .i64 kh13, .slice wa13 wl13.length wc13, .slice ra13 rl13.length rc13, .slice ca13 cl13.length cc13, .int .i64 sh13, .int .i64 sh213, .slice xa13 xn13 xc13, .slice ya13 yn13 yc13, .int .i64 bins13, .slice oa13 on13 oc13, .int .i64 mx13] 33 from by rw [HA13.out]] at h9; exact h9)
    have z102 := H101.out.cell 3 rfl 15 rfl
    have z103 := H101.out.free 3 rfl 15
    go_upto_region 13 with fail
    clear z102 z103
    have H104 := hid (show St _ _ (_ :: _ :: _ :: .cells D17 #[.int .i64 kd13, .int .i64 sa13, .int .i64 sb13, .bool bar13, .int .i64 ep13, .int .i64 ef13, .int .i64 kw13, .int .i64 kh13, .slice wa13 wl13.length wc13, .slice ra13 rl13.length rc13, .slice ca13 cl13.length cc13, .int .i64 sh13, .int .i64 sh213, .slice xa13 xn13 xc13, .slice ya13 yn13 yc13, .int .i64 (1 + x98), .slice oa13 on13 oc13, .int .i64 mx13] 33 :: _) _ _ from (H101.out.set 3 rfl 15 (.int .i64 (1 + x98))))
    first | refine gen_code H104.out ?_ | refine gen_list H104.out ?_ | refine gen_calls H104.out ?_
    intro w105 hG
    clear H104
    have H104 := hid hG
    clear hG
    obtain ⟨A9, hA9⟩ : ∃ z : Array Value, #[.int .i64 kd13, .int .i64 sa13, .int .i64 sb13, .bool bar13, .int .i64 ep13, .int .i64 ef13, .int .i64 kw13, .int .i64 kh13, .slice wa13 wl13.length wc13, .slice ra13 rl13.length rc13, .slice ca13 cl13.length cc13, .int .i64 sh13, .int .i64 sh213, .slice xa13 xn13 xc13, .slice ya13 yn13 yc13, .int .i64 (1 + x98), .slice oa13 on13 oc13, .int .i64 mx13] = z := ⟨_, rfl⟩
    have H106 := H104; rw [hA9] at H106
    have HA9 := hid hA9.symm
    clear hA9
    have HBAD := hid (show (sfOk kd13 sb13 ep13 ef13 kw13 kh13 wl13.length rl13.length cl13.length sh13 sh213 xn13 yn13 (1 + x98) on13 mx13) = false from by unfold sfOk; have := c60h.out; exact decide_eq_false (by omega))
    have z107 := H106.out.cell 11 rfl 0 rfl
    have z108 := H106.out.cell 11 rfl 1 rfl
    have z109 := H106.out.cell 11 rfl 2 rfl
    have z110 := H106.out.loadStg 3 rfl (by rw [HA9.out]; rfl)
    go_wp2_with (refine loadArm z110 (by rfl) (by rfl) ?_)
    clear z107 z108 z109 z110
    refine (of_any HA9.out wl13 rl13 cl13 (tapD xp13) (tapD yp13) ol13 sm6_0 sm6_1 sm6_2 sm6_0 sm6_1 sm6_2 _ (H106.out.slc 6 rfl) (H106.out.slc 7 rfl) (H106.out.slc 8 rfl) (H106.out.taps 4 rfl HQxp13.out) (H106.out.taps 5 rfl HQyp13.out) (H106.out.prs 9 rfl)).mono ?_
    rintro e w111 ⟨rfl, hb⟩
    have H112 := hid (H106.out.call hb)
    clear hb
    rw [show shCode (sfOk kd13 sb13 ep13 ef13 kw13 kh13 wl13.length rl13.length cl13.length sh13 sh213 xn13 yn13 (1 + x98) on13 mx13) kd13 sb13 ep13 ef13 kw13 kh13 wl13 rl13 cl13 sh13 sh213 (tapD xp13) (tapD yp13) (1 + x98) ol13 mx13 sm6_0 sm6_1 sm6_2 sm6_0 sm6_1 sm6_2 = 1 from by unfold shCode; rw [HBAD.out]; rfl]
    simp only [show ∀ v, shIf 1 v = 0 from fun v => if_neg (by decide)]
    obtain ⟨D113, hD113⟩ : ∃ D, w111.heap.size = D := ⟨_, rfl⟩
    go_upto_region 14 with fail
    have H114 := hid (H112.out.alloc #[.int .i64 0, .int .i64 0, .int .i64 0] 24 hD113)
    first | refine gen_code H114.out ?_ | refine gen_list H114.out ?_ | refine gen_calls H114.out ?_
    intro w115 hG
    clear H114
    have H114 := hid hG
    clear hG
    clear hD113
    have z116 := H114.out.loadStg 4 rfl (by rw [HA9.out]; rfl)
    go_wp2_with (refine loadArm z116 (by rfl) (by rfl) ?_)
    clear z116
    refine (sfields_A HA9.out _).mono ?_
    rintro e w117 ⟨rfl, hb⟩
    have H118 := hid (H114.out.call hb)
    clear hb
    rw [HBAD.out]
    go_wp2_with fail
    refine (sane15 _).mono ?_
    rintro e w119 ⟨rfl, hb⟩
    have H120 := hid (H118.out.call hb)
    clear hb
    go_wp2_with fail
    go_ret
    exact ⟨rfl, by first | exact H120.out.below | exact H120.out.below'⟩
end Go.Proofs.Yteejjnhlfgjlaaa
