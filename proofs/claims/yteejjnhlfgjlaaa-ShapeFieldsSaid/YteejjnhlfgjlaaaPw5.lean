/-
 Contracts: the interval of an operation, in the program.
-/
import Derived.Test.YteejjnhlfgjlaaaPw3
namespace Go.Proofs.Yteejjnhlfgjlaaa
open Go.RowKit
attribute [local go_sem ↓] Go.wp_at_zero Go.wp_at_succ
set_option linter.unusedVariables false
set_option linter.unusedSimpArgs false


set_option maxRecDepth 100000 in
set_option maxHeartbeats 3200000 in
theorem papply_any_3 (g xl xh yl yh : Int) (W : World) (hxl : accOk xl = true) (hxh : accOk xh = true) (hyl : accOk yl = true) (hyh : accOk yh = true) : Calls Try.prog 76 #[.agg #[.int .i64 3, .int .i64 g], .agg #[.int .i64 xl, .int .i64 xh], .agg #[.int .i64 yl, .int .i64 yh]] W fun e w' => (∃ lo hi, e = .returned (.tuple #[.agg #[.int .i64 lo, .int .i64 hi], .bool (pwIok 3 g (xl, xh) (yl, yh) 0 0)]) ∧ (pwIok 3 g (xl, xh) (yl, yh) 0 0 = true → lo = (pwInt 3 g (xl, xh) (yl, yh) 0 0).1 ∧ hi = (pwInt 3 g (xl, xh) (yl, yh) 0 0).2)) ∧ Below W.heap.size W w' := by
 obtain ⟨xl1, xl2⟩ := accOk_iff.1 hxl
 obtain ⟨xh1, xh2⟩ := accOk_iff.1 hxh
 obtain ⟨yl1, yl2⟩ := accOk_iff.1 hyl
 obtain ⟨yh1, yh2⟩ := accOk_iff.1 hyh
 obtain ⟨B, hB⟩ : ∃ B, W.heap.size = B := ⟨_, rfl⟩
 have HI0 := hid (St.init hB)
 go_enter Try.func76, Try.ntmps76
 go_upto_region 1 with fail
 have H370 := hid (show St _ _ (.cells (B + 1 + 1 + 1) _ _ :: .cells (B + 1 + 1) _ _ :: .cells (B + 1) _ _ :: .cells B _ _ :: _) _ _ from ((((HI0.out.alloc #[.int .i64 3, .int .i64 g] 57 hB).alloc #[.int .i64 xl, .int .i64 xh] 94 (by first | exact hB | simp [hB])).alloc #[.int .i64 yl, .int .i64 yh] 94 (by first | exact hB | simp [hB])).alloc #[.int .i64 0, .int .i64 0] 94 (by first | exact hB | simp [hB])))
 first | refine gen_code H370.out ?_ | refine gen_list H370.out ?_ | refine gen_calls H370.out ?_
 intro w371 hG
 clear H370
 have H370 := hid hG
 clear hG
 obtain ⟨D372, hD372⟩ : ∃ D, w371.heap.size = D := ⟨_, rfl⟩
 go_upto_region 2 with fail
 have H373 := hid (H370.out.alloc #[.int .i64 0, .int .i64 0] 94 hD372)
 first | refine gen_code H373.out ?_ | refine gen_list H373.out ?_ | refine gen_calls H373.out ?_
 intro w374 hG
 clear H373
 have H373 := hid hG
 clear hG
 clear hD372
 have z375 := H373.out.cell 4 rfl 0 rfl
 have z376 := H373.out.cell 4 rfl 1 rfl
 have z377 := H373.out.cell 3 rfl 0 rfl
 have z378 := H373.out.cell 3 rfl 1 rfl
 have z379 := H373.out.cell 2 rfl 0 rfl
 have z380 := H373.out.cell 2 rfl 1 rfl
 have z381 := H373.out.cell 0 rfl 0 rfl
 have z382 := H373.out.free 0 rfl 0
 have z383 := H373.out.cell 0 rfl 1 rfl
 have z384 := H373.out.free 0 rfl 1
 go_upto_region 22 with fail
 clear z375 z376 z377 z378 z379 z380 z381 z382 z383 z384
 have H385 := hid (show St _ _ (.cells D372 #[.int .i64 (xl + yl), .int .i64 (xh + yh)] 94 :: _) _ _ from ((H373.out.set 0 rfl 0 (.int .i64 (xl + yl))).set 0 rfl 1 (.int .i64 (xh + yh))))
 first | refine gen_code H385.out ?_ | refine gen_list H385.out ?_ | refine gen_calls H385.out ?_
 intro w386 hG
 clear H385
 have H385 := hid hG
 clear hG
 have H387 := hid H385.out.drew
 refine wp_region_held_drew (S := (fun w' => w'.cell? ⟨D372, 0, none⟩ = some (.int .i64 (xl + yl)) ∧ w'.cell? ⟨D372, 1, none⟩ = some (.int .i64 (xh + yh)))) (by kernel_rfl) ⟨H387.out.cell 0 rfl 0 rfl, H387.out.cell 0 rfl 1 rfl⟩ (fun hHeld => ?_)
 generalize w386.drew = k388 at *
 refine tkA 0 ?_
 try simp only [Act.put, p1, p2, p3, p4, p5, p6]
 refine tkA 1 ?_
 try simp only [Act.put, p1, p2, p3, p4, p5, p6]
 refine tkA 2 ?_
 try simp only [Act.put, p1, p2, p3, p4, p5, p6]
 refine tkA 3 ?_
 try simp only [Act.put, p1, p2, p3, p4, p5, p6]
 refine tkA 4 ?_
 try simp only [Act.put, p1, p2, p3, p4, p5, p6]
 refine wpAnyH_ready (rs := [5]) (by kernel_rfl) (by simp) (AllReadyH.cons (o := _) rfl (fun K hK => ?_) AllReadyH.nil)
 go_simp
 go_at_call 87
 refine (pwithin_any _ _).mono ?_
 rintro e w389 ⟨rfl, hsw⟩
 have hsw2 : k388 = w389 := by first | exact hsw | exact hsw.symm
 clear hsw
 subst hsw2
 obtain ⟨b390, hb390⟩ : ∃ xx', accOk (xl + yl) = xx' := ⟨_, rfl⟩
 rw [hb390]
 have HNb390 := hid hb390
 clear hb390
 refine hK.out _ _ ?_ (fun hHeld2 => ?_)
 focus ((try dsimp only); (exact ⟨H387.out.cell 0 rfl 0 rfl, H387.out.cell 0 rfl 1 rfl⟩))
 clear hK K
 try simp only [Act.put, p1, p2, p3, p4, p5, p6]
 clear hHeld
 have hHeld := hHeld2
 clear hHeld2
 cases b390
 ·
  skip
  refine tkA 6 ?_
  try simp only [Act.put, p1, p2, p3, p4, p5, p6]
  refine tkA 7 ?_
  try simp only [Act.put, p1, p2, p3, p4, p5, p6]
  refine tkU 8 ?_
  try simp only [Act.put, p1, p2, p3, p4, p5, p6]
  refine tkU 9 ?_
  try simp only [Act.put, p1, p2, p3, p4, p5, p6]
  refine tkU 10 ?_
  try simp only [Act.put, p1, p2, p3, p4, p5, p6]
  refine tkA 11 ?_
  try simp only [Act.put, p1, p2, p3, p4, p5, p6]
  refine wpAnyH_ready (rs := [12]) (by kernel_rfl) (by simp) (AllReadyH.cons (o := _) rfl (fun K hK => ?_) AllReadyH.nil)
  have z391 := H387.out.cell 1 rfl 0 rfl
  have z392 := H387.out.free 1 rfl 0
  have z393 := H387.out.cell 1 rfl 1 rfl
  have z394 := H387.out.free 1 rfl 1
  have H395 := hid (show St _ _ (_ :: .cells (B + 1 + 1 + 1) #[.int .i64 (xl + yl), .int .i64 (xh + yh)] 94 :: _) _ _ from ((H387.out.set 1 rfl 0 (.int .i64 (xl + yl))).set 1 rfl 1 (.int .i64 (xh + yh))))
  go_simp
  refine hK.out _ _ ?_ (fun hHeld2 => ?_)
  focus ((try dsimp only); (exact ⟨H395.out.cell 0 rfl 0 rfl, H395.out.cell 0 rfl 1 rfl⟩))
  clear hK K hHeld
  try simp only [Act.put, p1, p2, p3, p4, p5, p6]
  clear z391 z392 z393 z394
  generalize ((k388.setCell ⟨B + 1 + 1 + 1, 0, none⟩ (.int .i64 (xl + yl))).setCell ⟨B + 1 + 1 + 1, 1, none⟩ (.int .i64 (xh + yh))) = k396 at *
  have hHeld := hHeld2
  clear hHeld2
  refine tkA 13 ?_
  try simp only [Act.put, p1, p2, p3, p4, p5, p6]
  refine wpAnyH_done (by kernel_rfl) ?_ _
  try clear hHeld
  have z397 := H395.out.cell 1 rfl 0 rfl
  have z398 := H395.out.cell 1 rfl 1 rfl
  go_wp2_with fail
  clear z397 z398
  have hpk := hid (show pwIok 3 g (xl, xh) (yl, yh) 0 0 = false from by unfold pwIok; rw [(show (pwInt 3 g (xl, xh) (yl, yh) 0 0).1 = xl + yl from rfl), (show (pwInt 3 g (xl, xh) (yl, yh) 0 0).2 = xh + yh from rfl), HNb390.out]; rfl)
  have q399 := H395.out.cell 1 rfl 0 rfl
  have q400 := H395.out.cell 1 rfl 1 rfl
  refine bodyPost_ret (v := .tuple #[.agg #[.int .i64 (xl + yl), .int .i64 (xh + yh)], .bool false]) ?_ rfl ⟨⟨_, _, by rw [hpk.out], fun _ => ⟨(show (pwInt 3 g (xl, xh) (yl, yh) 0 0).1 = xl + yl from rfl).symm, (show (pwInt 3 g (xl, xh) (yl, yh) 0 0).2 = xh + yh from rfl).symm⟩⟩, by first | exact H395.out.below | exact H395.out.below'⟩
  simp [results, Try.results76, go_sem, q399, q400]
 ·
  skip
  refine tkA 6 ?_
  try simp only [Act.put, p1, p2, p3, p4, p5, p6]
  refine tkA 7 ?_
  try simp only [Act.put, p1, p2, p3, p4, p5, p6]
  refine tkA 8 ?_
  try simp only [Act.put, p1, p2, p3, p4, p5, p6]
  refine tkA 9 ?_
  try simp only [Act.put, p1, p2, p3, p4, p5, p6]
  refine wpAnyH_ready (rs := [10]) (by kernel_rfl) (by simp) (AllReadyH.cons (o := _) rfl (fun K hK => ?_) AllReadyH.nil)
  go_simp
  go_at_call 87
  refine (pwithin_any _ _).mono ?_
  rintro e w401 ⟨rfl, hsw⟩
  have hsw2 : k388 = w401 := by first | exact hsw | exact hsw.symm
  clear hsw
  subst hsw2
  obtain ⟨b402, hb402⟩ : ∃ xx', accOk (xh + yh) = xx' := ⟨_, rfl⟩
  rw [hb402]
  have HNb402 := hid hb402
  clear hb402
  refine hK.out _ _ ?_ (fun hHeld2 => ?_)
  focus ((try dsimp only); (exact ⟨H387.out.cell 0 rfl 0 rfl, H387.out.cell 0 rfl 1 rfl⟩))
  clear hK K
  try simp only [Act.put, p1, p2, p3, p4, p5, p6]
  clear hHeld
  have hHeld := hHeld2
  clear hHeld2
  refine tkA 11 ?_
  try simp only [Act.put, p1, p2, p3, p4, p5, p6]
  refine wpAnyH_ready (rs := [12]) (by kernel_rfl) (by simp) (AllReadyH.cons (o := _) rfl (fun K hK => ?_) AllReadyH.nil)
  have z403 := H387.out.cell 1 rfl 0 rfl
  have z404 := H387.out.free 1 rfl 0
  have z405 := H387.out.cell 1 rfl 1 rfl
  have z406 := H387.out.free 1 rfl 1
  have H407 := hid (show St _ _ (_ :: .cells (B + 1 + 1 + 1) #[.int .i64 (xl + yl), .int .i64 (xh + yh)] 94 :: _) _ _ from ((H387.out.set 1 rfl 0 (.int .i64 (xl + yl))).set 1 rfl 1 (.int .i64 (xh + yh))))
  go_simp
  refine hK.out _ _ ?_ (fun hHeld2 => ?_)
  focus ((try dsimp only); (exact ⟨H407.out.cell 0 rfl 0 rfl, H407.out.cell 0 rfl 1 rfl⟩))
  clear hK K hHeld
  try simp only [Act.put, p1, p2, p3, p4, p5, p6]
  clear z403 z404 z405 z406
  generalize ((k388.setCell ⟨B + 1 + 1 + 1, 0, none⟩ (.int .i64 (xl + yl))).setCell ⟨B + 1 + 1 + 1, 1, none⟩ (.int .i64 (xh + yh))) = k408 at *
  have hHeld := hHeld2
  clear hHeld2
  refine tkA 13 ?_
  try simp only [Act.put, p1, p2, p3, p4, p5, p6]
  refine wpAnyH_done (by kernel_rfl) ?_ _
  try clear hHeld
  have z409 := H407.out.cell 1 rfl 0 rfl
  have z410 := H407.out.cell 1 rfl 1 rfl
  go_wp2_with fail
  clear z409 z410
  have hpk := hid (show pwIok 3 g (xl, xh) (yl, yh) 0 0 = b402 from by unfold pwIok; rw [(show (pwInt 3 g (xl, xh) (yl, yh) 0 0).1 = xl + yl from rfl), (show (pwInt 3 g (xl, xh) (yl, yh) 0 0).2 = xh + yh from rfl), HNb390.out, HNb402.out]; rfl)
  have q411 := H407.out.cell 1 rfl 0 rfl
  have q412 := H407.out.cell 1 rfl 1 rfl
  refine bodyPost_ret (v := .tuple #[.agg #[.int .i64 (xl + yl), .int .i64 (xh + yh)], .bool b402]) ?_ rfl ⟨⟨_, _, by rw [hpk.out], fun _ => ⟨(show (pwInt 3 g (xl, xh) (yl, yh) 0 0).1 = xl + yl from rfl).symm, (show (pwInt 3 g (xl, xh) (yl, yh) 0 0).2 = xh + yh from rfl).symm⟩⟩, by first | exact H407.out.below | exact H407.out.below'⟩
  simp [results, Try.results76, go_sem, q411, q412]

set_option maxRecDepth 100000 in
set_option maxHeartbeats 3200000 in
theorem papply_any_4 (g xl xh yl yh : Int) (W : World) (hxl : accOk xl = true) (hxh : accOk xh = true) (hyl : accOk yl = true) (hyh : accOk yh = true) : Calls Try.prog 76 #[.agg #[.int .i64 4, .int .i64 g], .agg #[.int .i64 xl, .int .i64 xh], .agg #[.int .i64 yl, .int .i64 yh]] W fun e w' => (∃ lo hi, e = .returned (.tuple #[.agg #[.int .i64 lo, .int .i64 hi], .bool (pwIok 4 g (xl, xh) (yl, yh) 0 0)]) ∧ (pwIok 4 g (xl, xh) (yl, yh) 0 0 = true → lo = (pwInt 4 g (xl, xh) (yl, yh) 0 0).1 ∧ hi = (pwInt 4 g (xl, xh) (yl, yh) 0 0).2)) ∧ Below W.heap.size W w' := by
 obtain ⟨xl1, xl2⟩ := accOk_iff.1 hxl
 obtain ⟨xh1, xh2⟩ := accOk_iff.1 hxh
 obtain ⟨yl1, yl2⟩ := accOk_iff.1 hyl
 obtain ⟨yh1, yh2⟩ := accOk_iff.1 hyh
 obtain ⟨B, hB⟩ : ∃ B, W.heap.size = B := ⟨_, rfl⟩
 have HI0 := hid (St.init hB)
 go_enter Try.func76, Try.ntmps76
 go_upto_region 1 with fail
 have H413 := hid (show St _ _ (.cells (B + 1 + 1 + 1) _ _ :: .cells (B + 1 + 1) _ _ :: .cells (B + 1) _ _ :: .cells B _ _ :: _) _ _ from ((((HI0.out.alloc #[.int .i64 4, .int .i64 g] 57 hB).alloc #[.int .i64 xl, .int .i64 xh] 94 (by first | exact hB | simp [hB])).alloc #[.int .i64 yl, .int .i64 yh] 94 (by first | exact hB | simp [hB])).alloc #[.int .i64 0, .int .i64 0] 94 (by first | exact hB | simp [hB])))
 first | refine gen_code H413.out ?_ | refine gen_list H413.out ?_ | refine gen_calls H413.out ?_
 intro w414 hG
 clear H413
 have H413 := hid hG
 clear hG
 obtain ⟨D415, hD415⟩ : ∃ D, w414.heap.size = D := ⟨_, rfl⟩
 go_upto_region 2 with fail
 have H416 := hid (H413.out.alloc #[.int .i64 0, .int .i64 0] 94 hD415)
 first | refine gen_code H416.out ?_ | refine gen_list H416.out ?_ | refine gen_calls H416.out ?_
 intro w417 hG
 clear H416
 have H416 := hid hG
 clear hG
 clear hD415
 have z418 := H416.out.cell 4 rfl 0 rfl
 have z419 := H416.out.cell 4 rfl 1 rfl
 have z420 := H416.out.cell 3 rfl 0 rfl
 have z421 := H416.out.cell 3 rfl 1 rfl
 have z422 := H416.out.cell 2 rfl 0 rfl
 have z423 := H416.out.cell 2 rfl 1 rfl
 have z424 := H416.out.cell 0 rfl 0 rfl
 have z425 := H416.out.free 0 rfl 0
 have z426 := H416.out.cell 0 rfl 1 rfl
 have z427 := H416.out.free 0 rfl 1
 go_upto_region 22 with fail
 clear z418 z419 z420 z421 z422 z423 z424 z425 z426 z427
 have H428 := hid (show St _ _ (.cells D415 #[.int .i64 (xl - yh), .int .i64 (xh - yl)] 94 :: _) _ _ from ((H416.out.set 0 rfl 0 (.int .i64 (xl - yh))).set 0 rfl 1 (.int .i64 (xh - yl))))
 first | refine gen_code H428.out ?_ | refine gen_list H428.out ?_ | refine gen_calls H428.out ?_
 intro w429 hG
 clear H428
 have H428 := hid hG
 clear hG
 have H430 := hid H428.out.drew
 refine wp_region_held_drew (S := (fun w' => w'.cell? ⟨D415, 0, none⟩ = some (.int .i64 (xl - yh)) ∧ w'.cell? ⟨D415, 1, none⟩ = some (.int .i64 (xh - yl)))) (by kernel_rfl) ⟨H430.out.cell 0 rfl 0 rfl, H430.out.cell 0 rfl 1 rfl⟩ (fun hHeld => ?_)
 generalize w429.drew = k431 at *
 refine tkA 0 ?_
 try simp only [Act.put, p1, p2, p3, p4, p5, p6]
 refine tkA 1 ?_
 try simp only [Act.put, p1, p2, p3, p4, p5, p6]
 refine tkA 2 ?_
 try simp only [Act.put, p1, p2, p3, p4, p5, p6]
 refine tkA 3 ?_
 try simp only [Act.put, p1, p2, p3, p4, p5, p6]
 refine tkA 4 ?_
 try simp only [Act.put, p1, p2, p3, p4, p5, p6]
 refine wpAnyH_ready (rs := [5]) (by kernel_rfl) (by simp) (AllReadyH.cons (o := _) rfl (fun K hK => ?_) AllReadyH.nil)
 go_simp
 go_at_call 87
 refine (pwithin_any _ _).mono ?_
 rintro e w432 ⟨rfl, hsw⟩
 have hsw2 : k431 = w432 := by first | exact hsw | exact hsw.symm
 clear hsw
 subst hsw2
 obtain ⟨b433, hb433⟩ : ∃ xx', accOk (xl - yh) = xx' := ⟨_, rfl⟩
 rw [hb433]
 have HNb433 := hid hb433
 clear hb433
 refine hK.out _ _ ?_ (fun hHeld2 => ?_)
 focus ((try dsimp only); (exact ⟨H430.out.cell 0 rfl 0 rfl, H430.out.cell 0 rfl 1 rfl⟩))
 clear hK K
 try simp only [Act.put, p1, p2, p3, p4, p5, p6]
 clear hHeld
 have hHeld := hHeld2
 clear hHeld2
 cases b433
 ·
  skip
  refine tkA 6 ?_
  try simp only [Act.put, p1, p2, p3, p4, p5, p6]
  refine tkA 7 ?_
  try simp only [Act.put, p1, p2, p3, p4, p5, p6]
  refine tkU 8 ?_
  try simp only [Act.put, p1, p2, p3, p4, p5, p6]
  refine tkU 9 ?_
  try simp only [Act.put, p1, p2, p3, p4, p5, p6]
  refine tkU 10 ?_
  try simp only [Act.put, p1, p2, p3, p4, p5, p6]
  refine tkA 11 ?_
  try simp only [Act.put, p1, p2, p3, p4, p5, p6]
  refine wpAnyH_ready (rs := [12]) (by kernel_rfl) (by simp) (AllReadyH.cons (o := _) rfl (fun K hK => ?_) AllReadyH.nil)
  have z434 := H430.out.cell 1 rfl 0 rfl
  have z435 := H430.out.free 1 rfl 0
  have z436 := H430.out.cell 1 rfl 1 rfl
  have z437 := H430.out.free 1 rfl 1
  have H438 := hid (show St _ _ (_ :: .cells (B + 1 + 1 + 1) #[.int .i64 (xl - yh), .int .i64 (xh - yl)] 94 :: _) _ _ from ((H430.out.set 1 rfl 0 (.int .i64 (xl - yh))).set 1 rfl 1 (.int .i64 (xh - yl))))
  go_simp
  refine hK.out _ _ ?_ (fun hHeld2 => ?_)
  focus ((try dsimp only); (exact ⟨H438.out.cell 0 rfl 0 rfl, H438.out.cell 0 rfl 1 rfl⟩))
  clear hK K hHeld
  try simp only [Act.put, p1, p2, p3, p4, p5, p6]
  clear z434 z435 z436 z437
  generalize ((k431.setCell ⟨B + 1 + 1 + 1, 0, none⟩ (.int .i64 (xl - yh))).setCell ⟨B + 1 + 1 + 1, 1, none⟩ (.int .i64 (xh - yl))) = k439 at *
  have hHeld := hHeld2
  clear hHeld2
  refine tkA 13 ?_
  try simp only [Act.put, p1, p2, p3, p4, p5, p6]
  refine wpAnyH_done (by kernel_rfl) ?_ _
  try clear hHeld
  have z440 := H438.out.cell 1 rfl 0 rfl
  have z441 := H438.out.cell 1 rfl 1 rfl
  go_wp2_with fail
  clear z440 z441
  have hpk := hid (show pwIok 4 g (xl, xh) (yl, yh) 0 0 = false from by unfold pwIok; rw [(show (pwInt 4 g (xl, xh) (yl, yh) 0 0).1 = xl - yh from rfl), (show (pwInt 4 g (xl, xh) (yl, yh) 0 0).2 = xh - yl from rfl), HNb433.out]; rfl)
  have q442 := H438.out.cell 1 rfl 0 rfl
  have q443 := H438.out.cell 1 rfl 1 rfl
  refine bodyPost_ret (v := .tuple #[.agg #[.int .i64 (xl - yh), .int .i64 (xh - yl)], .bool false]) ?_ rfl ⟨⟨_, _, by rw [hpk.out], fun _ => ⟨(show (pwInt 4 g (xl, xh) (yl, yh) 0 0).1 = xl - yh from rfl).symm, (show (pwInt 4 g (xl, xh) (yl, yh) 0 0).2 = xh - yl from rfl).symm⟩⟩, by first | exact H438.out.below | exact H438.out.below'⟩
  simp [results, Try.results76, go_sem, q442, q443]
 ·
  skip
  refine tkA 6 ?_
  try simp only [Act.put, p1, p2, p3, p4, p5, p6]
  refine tkA 7 ?_
  try simp only [Act.put, p1, p2, p3, p4, p5, p6]
  refine tkA 8 ?_
  try simp only [Act.put, p1, p2, p3, p4, p5, p6]
  refine tkA 9 ?_
  try simp only [Act.put, p1, p2, p3, p4, p5, p6]
  refine wpAnyH_ready (rs := [10]) (by kernel_rfl) (by simp) (AllReadyH.cons (o := _) rfl (fun K hK => ?_) AllReadyH.nil)
  go_simp
  go_at_call 87
  refine (pwithin_any _ _).mono ?_
  rintro e w444 ⟨rfl, hsw⟩
  have hsw2 : k431 = w444 := by first | exact hsw | exact hsw.symm
  clear hsw
  subst hsw2
  obtain ⟨b445, hb445⟩ : ∃ xx', accOk (xh - yl) = xx' := ⟨_, rfl⟩
  rw [hb445]
  have HNb445 := hid hb445
  clear hb445
  refine hK.out _ _ ?_ (fun hHeld2 => ?_)
  focus ((try dsimp only); (exact ⟨H430.out.cell 0 rfl 0 rfl, H430.out.cell 0 rfl 1 rfl⟩))
  clear hK K
  try simp only [Act.put, p1, p2, p3, p4, p5, p6]
  clear hHeld
  have hHeld := hHeld2
  clear hHeld2
  refine tkA 11 ?_
  try simp only [Act.put, p1, p2, p3, p4, p5, p6]
  refine wpAnyH_ready (rs := [12]) (by kernel_rfl) (by simp) (AllReadyH.cons (o := _) rfl (fun K hK => ?_) AllReadyH.nil)
  have z446 := H430.out.cell 1 rfl 0 rfl
  have z447 := H430.out.free 1 rfl 0
  have z448 := H430.out.cell 1 rfl 1 rfl
  have z449 := H430.out.free 1 rfl 1
  have H450 := hid (show St _ _ (_ :: .cells (B + 1 + 1 + 1) #[.int .i64 (xl - yh), .int .i64 (xh - yl)] 94 :: _) _ _ from ((H430.out.set 1 rfl 0 (.int .i64 (xl - yh))).set 1 rfl 1 (.int .i64 (xh - yl))))
  go_simp
  refine hK.out _ _ ?_ (fun hHeld2 => ?_)
  focus ((try dsimp only); (exact ⟨H450.out.cell 0 rfl 0 rfl, H450.out.cell 0 rfl 1 rfl⟩))
  clear hK K hHeld
  try simp only [Act.put, p1, p2, p3, p4, p5, p6]
  clear z446 z447 z448 z449
  generalize ((k431.setCell ⟨B + 1 + 1 + 1, 0, none⟩ (.int .i64 (xl - yh))).setCell ⟨B + 1 + 1 + 1, 1, none⟩ (.int .i64 (xh - yl))) = k451 at *
  have hHeld := hHeld2
  clear hHeld2
  refine tkA 13 ?_
  try simp only [Act.put, p1, p2, p3, p4, p5, p6]
  refine wpAnyH_done (by kernel_rfl) ?_ _
  try clear hHeld
  have z452 := H450.out.cell 1 rfl 0 rfl
  have z453 := H450.out.cell 1 rfl 1 rfl
  go_wp2_with fail
  clear z452 z453
  have hpk := hid (show pwIok 4 g (xl, xh) (yl, yh) 0 0 = b445 from by unfold pwIok; rw [(show (pwInt 4 g (xl, xh) (yl, yh) 0 0).1 = xl - yh from rfl), (show (pwInt 4 g (xl, xh) (yl, yh) 0 0).2 = xh - yl from rfl), HNb433.out, HNb445.out]; rfl)
  have q454 := H450.out.cell 1 rfl 0 rfl
  have q455 := H450.out.cell 1 rfl 1 rfl
  refine bodyPost_ret (v := .tuple #[.agg #[.int .i64 (xl - yh), .int .i64 (xh - yl)], .bool b445]) ?_ rfl ⟨⟨_, _, by rw [hpk.out], fun _ => ⟨(show (pwInt 4 g (xl, xh) (yl, yh) 0 0).1 = xl - yh from rfl).symm, (show (pwInt 4 g (xl, xh) (yl, yh) 0 0).2 = xh - yl from rfl).symm⟩⟩, by first | exact H450.out.below | exact H450.out.below'⟩
  simp [results, Try.results76, go_sem, q454, q455]

set_option maxRecDepth 100000 in
set_option maxHeartbeats 3200000 in
theorem papply_any_5 (g xl xh yl yh : Int) (W : World) (hxl : accOk xl = true) (hxh : accOk xh = true) (hyl : accOk yl = true) (hyh : accOk yh = true) : Calls Try.prog 76 #[.agg #[.int .i64 5, .int .i64 g], .agg #[.int .i64 xl, .int .i64 xh], .agg #[.int .i64 yl, .int .i64 yh]] W fun e w' => (∃ lo hi, e = .returned (.tuple #[.agg #[.int .i64 lo, .int .i64 hi], .bool (pwIok 5 g (xl, xh) (yl, yh) 0 0)]) ∧ (pwIok 5 g (xl, xh) (yl, yh) 0 0 = true → lo = (pwInt 5 g (xl, xh) (yl, yh) 0 0).1 ∧ hi = (pwInt 5 g (xl, xh) (yl, yh) 0 0).2)) ∧ Below W.heap.size W w' := by
 obtain ⟨xl1, xl2⟩ := accOk_iff.1 hxl
 obtain ⟨xh1, xh2⟩ := accOk_iff.1 hxh
 obtain ⟨yl1, yl2⟩ := accOk_iff.1 hyl
 obtain ⟨yh1, yh2⟩ := accOk_iff.1 hyh
 obtain ⟨B, hB⟩ : ∃ B, W.heap.size = B := ⟨_, rfl⟩
 have HI0 := hid (St.init hB)
 go_enter Try.func76, Try.ntmps76
 go_upto_region 1 with fail
 have H456 := hid (show St _ _ (.cells (B + 1 + 1 + 1) _ _ :: .cells (B + 1 + 1) _ _ :: .cells (B + 1) _ _ :: .cells B _ _ :: _) _ _ from ((((HI0.out.alloc #[.int .i64 5, .int .i64 g] 57 hB).alloc #[.int .i64 xl, .int .i64 xh] 94 (by first | exact hB | simp [hB])).alloc #[.int .i64 yl, .int .i64 yh] 94 (by first | exact hB | simp [hB])).alloc #[.int .i64 0, .int .i64 0] 94 (by first | exact hB | simp [hB])))
 first | refine gen_code H456.out ?_ | refine gen_list H456.out ?_ | refine gen_calls H456.out ?_
 intro w457 hG
 clear H456
 have H456 := hid hG
 clear hG
 obtain ⟨D458, hD458⟩ : ∃ D, w457.heap.size = D := ⟨_, rfl⟩
 go_upto_region 2 with fail
 have H459 := hid (H456.out.alloc #[.int .i64 0, .int .i64 0] 94 hD458)
 first | refine gen_code H459.out ?_ | refine gen_list H459.out ?_ | refine gen_calls H459.out ?_
 intro w460 hG
 clear H459
 have H459 := hid hG
 clear hG
 clear hD458
 have z461 := H459.out.cell 4 rfl 0 rfl
 have z462 := H459.out.cell 4 rfl 1 rfl
 have z463 := H459.out.cell 3 rfl 0 rfl
 have z464 := H459.out.cell 3 rfl 1 rfl
 have z465 := H459.out.cell 2 rfl 0 rfl
 have z466 := H459.out.cell 2 rfl 1 rfl
 go_wp2_with fail
 clear z461 z462 z463 z464 z465 z466
 refine (ptimes_any _ _ _ _ _ hxl hxh hyl hyh).mono ?_
 rintro e w469 ⟨⟨lo467, hi468, rfl, hlh⟩, hb⟩
 have H470 := hid (H459.out.call hb)
 clear hb
 obtain ⟨b471, hb471⟩ : ∃ xx', pwMul (xl, xh) (yl, yh) = xx' := ⟨_, rfl⟩
 rw [hb471] at hlh ⊢
 have HNb471 := hid hb471
 clear hb471
 have HLH := hid hlh
 clear hlh
 cases b471 with
 | true =>
  have z472 := H470.out.cell 0 rfl 0 rfl
  have z473 := H470.out.free 0 rfl 0
  have z474 := H470.out.cell 0 rfl 1 rfl
  have z475 := H470.out.free 0 rfl 1
  go_upto_region 22 with fail
  clear z472 z473 z474 z475
  have H476 := hid (show St _ _ (.cells D458 #[.int .i64 lo467, .int .i64 hi468] 94 :: _) _ _ from ((H470.out.set 0 rfl 0 (.int .i64 lo467)).set 0 rfl 1 (.int .i64 hi468)))
  first | refine gen_code H476.out ?_ | refine gen_list H476.out ?_ | refine gen_calls H476.out ?_
  intro w477 hG
  clear H476
  have H476 := hid hG
  clear hG
  have H478 := hid H476.out.drew
  refine wp_region_held_drew (S := (fun w' => w'.cell? ⟨D458, 0, none⟩ = some (.int .i64 lo467) ∧ w'.cell? ⟨D458, 1, none⟩ = some (.int .i64 hi468))) (by kernel_rfl) ⟨H478.out.cell 0 rfl 0 rfl, H478.out.cell 0 rfl 1 rfl⟩ (fun hHeld => ?_)
  generalize w477.drew = k479 at *
  refine tkA 0 ?_
  try simp only [Act.put, p1, p2, p3, p4, p5, p6]
  refine tkA 1 ?_
  try simp only [Act.put, p1, p2, p3, p4, p5, p6]
  refine tkA 2 ?_
  try simp only [Act.put, p1, p2, p3, p4, p5, p6]
  refine tkA 3 ?_
  try simp only [Act.put, p1, p2, p3, p4, p5, p6]
  refine tkA 4 ?_
  try simp only [Act.put, p1, p2, p3, p4, p5, p6]
  refine wpAnyH_ready (rs := [5]) (by kernel_rfl) (by simp) (AllReadyH.cons (o := _) rfl (fun K hK => ?_) AllReadyH.nil)
  go_simp
  go_at_call 87
  refine (pwithin_any _ _).mono ?_
  rintro e w480 ⟨rfl, hsw⟩
  have hsw2 : k479 = w480 := by first | exact hsw | exact hsw.symm
  clear hsw
  subst hsw2
  obtain ⟨b481, hb481⟩ : ∃ xx', accOk lo467 = xx' := ⟨_, rfl⟩
  rw [hb481]
  have HNb481 := hid hb481
  clear hb481
  refine hK.out _ _ ?_ (fun hHeld2 => ?_)
  focus ((try dsimp only); (exact ⟨H478.out.cell 0 rfl 0 rfl, H478.out.cell 0 rfl 1 rfl⟩))
  clear hK K
  try simp only [Act.put, p1, p2, p3, p4, p5, p6]
  clear hHeld
  have hHeld := hHeld2
  clear hHeld2
  cases b481
  ·
   skip
   refine tkA 6 ?_
   try simp only [Act.put, p1, p2, p3, p4, p5, p6]
   refine tkA 7 ?_
   try simp only [Act.put, p1, p2, p3, p4, p5, p6]
   refine tkU 8 ?_
   try simp only [Act.put, p1, p2, p3, p4, p5, p6]
   refine tkU 9 ?_
   try simp only [Act.put, p1, p2, p3, p4, p5, p6]
   refine tkU 10 ?_
   try simp only [Act.put, p1, p2, p3, p4, p5, p6]
   refine tkA 11 ?_
   try simp only [Act.put, p1, p2, p3, p4, p5, p6]
   refine wpAnyH_ready (rs := [12]) (by kernel_rfl) (by simp) (AllReadyH.cons (o := _) rfl (fun K hK => ?_) AllReadyH.nil)
   have z482 := H478.out.cell 1 rfl 0 rfl
   have z483 := H478.out.free 1 rfl 0
   have z484 := H478.out.cell 1 rfl 1 rfl
   have z485 := H478.out.free 1 rfl 1
   have H486 := hid (show St _ _ (_ :: .cells (B + 1 + 1 + 1) #[.int .i64 lo467, .int .i64 hi468] 94 :: _) _ _ from ((H478.out.set 1 rfl 0 (.int .i64 lo467)).set 1 rfl 1 (.int .i64 hi468)))
   go_simp
   refine hK.out _ _ ?_ (fun hHeld2 => ?_)
   focus ((try dsimp only); (exact ⟨H486.out.cell 0 rfl 0 rfl, H486.out.cell 0 rfl 1 rfl⟩))
   clear hK K hHeld
   try simp only [Act.put, p1, p2, p3, p4, p5, p6]
   clear z482 z483 z484 z485
   generalize ((k479.setCell ⟨B + 1 + 1 + 1, 0, none⟩ (.int .i64 lo467)).setCell ⟨B + 1 + 1 + 1, 1, none⟩ (.int .i64 hi468)) = k487 at *
   have hHeld := hHeld2
   clear hHeld2
   refine tkA 13 ?_
   try simp only [Act.put, p1, p2, p3, p4, p5, p6]
   refine wpAnyH_done (by kernel_rfl) ?_ _
   try clear hHeld
   have z488 := H486.out.cell 1 rfl 0 rfl
   have z489 := H486.out.cell 1 rfl 1 rfl
   go_wp2_with fail
   clear z488 z489
   have hpk := hid (show pwIok 5 g (xl, xh) (yl, yh) 0 0 = false from by unfold pwIok; rw [(show (pwInt 5 g (xl, xh) (yl, yh) 0 0).1 = lo467 from (by first | exact (HLH.out rfl).1.symm | exact (HLH.out trivial).1.symm | exact HLH.out.1.symm)), (show (pwInt 5 g (xl, xh) (yl, yh) 0 0).2 = hi468 from (by first | exact (HLH.out rfl).2.symm | exact (HLH.out trivial).2.symm | exact HLH.out.2.symm)), HNb481.out, HNb471.out]; rfl)
   have q490 := H486.out.cell 1 rfl 0 rfl
   have q491 := H486.out.cell 1 rfl 1 rfl
   refine bodyPost_ret (v := .tuple #[.agg #[.int .i64 lo467, .int .i64 hi468], .bool false]) ?_ rfl ⟨⟨_, _, by rw [hpk.out], fun _ => ⟨(show (pwInt 5 g (xl, xh) (yl, yh) 0 0).1 = lo467 from (by first | exact (HLH.out rfl).1.symm | exact (HLH.out trivial).1.symm | exact HLH.out.1.symm)).symm, (show (pwInt 5 g (xl, xh) (yl, yh) 0 0).2 = hi468 from (by first | exact (HLH.out rfl).2.symm | exact (HLH.out trivial).2.symm | exact HLH.out.2.symm)).symm⟩⟩, by first | exact H486.out.below | exact H486.out.below'⟩
   simp [results, Try.results76, go_sem, q490, q491]
  ·
   skip
   refine tkA 6 ?_
   try simp only [Act.put, p1, p2, p3, p4, p5, p6]
   refine tkA 7 ?_
   try simp only [Act.put, p1, p2, p3, p4, p5, p6]
   refine tkA 8 ?_
   try simp only [Act.put, p1, p2, p3, p4, p5, p6]
   refine tkA 9 ?_
   try simp only [Act.put, p1, p2, p3, p4, p5, p6]
   refine wpAnyH_ready (rs := [10]) (by kernel_rfl) (by simp) (AllReadyH.cons (o := _) rfl (fun K hK => ?_) AllReadyH.nil)
   go_simp
   go_at_call 87
   refine (pwithin_any _ _).mono ?_
   rintro e w492 ⟨rfl, hsw⟩
   have hsw2 : k479 = w492 := by first | exact hsw | exact hsw.symm
   clear hsw
   subst hsw2
   obtain ⟨b493, hb493⟩ : ∃ xx', accOk hi468 = xx' := ⟨_, rfl⟩
   rw [hb493]
   have HNb493 := hid hb493
   clear hb493
   refine hK.out _ _ ?_ (fun hHeld2 => ?_)
   focus ((try dsimp only); (exact ⟨H478.out.cell 0 rfl 0 rfl, H478.out.cell 0 rfl 1 rfl⟩))
   clear hK K
   try simp only [Act.put, p1, p2, p3, p4, p5, p6]
   clear hHeld
   have hHeld := hHeld2
   clear hHeld2
   refine tkA 11 ?_
   try simp only [Act.put, p1, p2, p3, p4, p5, p6]
   refine wpAnyH_ready (rs := [12]) (by kernel_rfl) (by simp) (AllReadyH.cons (o := _) rfl (fun K hK => ?_) AllReadyH.nil)
   have z494 := H478.out.cell 1 rfl 0 rfl
   have z495 := H478.out.free 1 rfl 0
   have z496 := H478.out.cell 1 rfl 1 rfl
   have z497 := H478.out.free 1 rfl 1
   have H498 := hid (show St _ _ (_ :: .cells (B + 1 + 1 + 1) #[.int .i64 lo467, .int .i64 hi468] 94 :: _) _ _ from ((H478.out.set 1 rfl 0 (.int .i64 lo467)).set 1 rfl 1 (.int .i64 hi468)))
   go_simp
   refine hK.out _ _ ?_ (fun hHeld2 => ?_)
   focus ((try dsimp only); (exact ⟨H498.out.cell 0 rfl 0 rfl, H498.out.cell 0 rfl 1 rfl⟩))
   clear hK K hHeld
   try simp only [Act.put, p1, p2, p3, p4, p5, p6]
   clear z494 z495 z496 z497
   generalize ((k479.setCell ⟨B + 1 + 1 + 1, 0, none⟩ (.int .i64 lo467)).setCell ⟨B + 1 + 1 + 1, 1, none⟩ (.int .i64 hi468)) = k499 at *
   have hHeld := hHeld2
   clear hHeld2
   refine tkA 13 ?_
   try simp only [Act.put, p1, p2, p3, p4, p5, p6]
   refine wpAnyH_done (by kernel_rfl) ?_ _
   try clear hHeld
   have z500 := H498.out.cell 1 rfl 0 rfl
   have z501 := H498.out.cell 1 rfl 1 rfl
   go_wp2_with fail
   clear z500 z501
   have hpk := hid (show pwIok 5 g (xl, xh) (yl, yh) 0 0 = b493 from by unfold pwIok; rw [(show (pwInt 5 g (xl, xh) (yl, yh) 0 0).1 = lo467 from (by first | exact (HLH.out rfl).1.symm | exact (HLH.out trivial).1.symm | exact HLH.out.1.symm)), (show (pwInt 5 g (xl, xh) (yl, yh) 0 0).2 = hi468 from (by first | exact (HLH.out rfl).2.symm | exact (HLH.out trivial).2.symm | exact HLH.out.2.symm)), HNb481.out, HNb493.out, HNb471.out]; rfl)
   have q502 := H498.out.cell 1 rfl 0 rfl
   have q503 := H498.out.cell 1 rfl 1 rfl
   refine bodyPost_ret (v := .tuple #[.agg #[.int .i64 lo467, .int .i64 hi468], .bool b493]) ?_ rfl ⟨⟨_, _, by rw [hpk.out], fun _ => ⟨(show (pwInt 5 g (xl, xh) (yl, yh) 0 0).1 = lo467 from (by first | exact (HLH.out rfl).1.symm | exact (HLH.out trivial).1.symm | exact HLH.out.1.symm)).symm, (show (pwInt 5 g (xl, xh) (yl, yh) 0 0).2 = hi468 from (by first | exact (HLH.out rfl).2.symm | exact (HLH.out trivial).2.symm | exact HLH.out.2.symm)).symm⟩⟩, by first | exact H498.out.below | exact H498.out.below'⟩
   simp [results, Try.results76, go_sem, q502, q503]
 | false =>
  have z504 := H470.out.cell 0 rfl 0 rfl
  have z505 := H470.out.free 0 rfl 0
  have z506 := H470.out.cell 0 rfl 1 rfl
  have z507 := H470.out.free 0 rfl 1
  go_upto_region 22 with fail
  clear z504 z505 z506 z507
  have H508 := hid (show St _ _ (.cells D458 #[.int .i64 lo467, .int .i64 hi468] 94 :: _) _ _ from ((H470.out.set 0 rfl 0 (.int .i64 lo467)).set 0 rfl 1 (.int .i64 hi468)))
  first | refine gen_code H508.out ?_ | refine gen_list H508.out ?_ | refine gen_calls H508.out ?_
  intro w509 hG
  clear H508
  have H508 := hid hG
  clear hG
  have H510 := hid H508.out.drew
  refine wp_region_held_drew (S := (fun w' => w'.cell? ⟨D458, 0, none⟩ = some (.int .i64 lo467) ∧ w'.cell? ⟨D458, 1, none⟩ = some (.int .i64 hi468))) (by kernel_rfl) ⟨H510.out.cell 0 rfl 0 rfl, H510.out.cell 0 rfl 1 rfl⟩ (fun hHeld => ?_)
  generalize w509.drew = k511 at *
  refine tkA 0 ?_
  try simp only [Act.put, p1, p2, p3, p4, p5, p6]
  refine tkA 1 ?_
  try simp only [Act.put, p1, p2, p3, p4, p5, p6]
  refine tkA 2 ?_
  try simp only [Act.put, p1, p2, p3, p4, p5, p6]
  refine tkU 3 ?_
  try simp only [Act.put, p1, p2, p3, p4, p5, p6]
  refine tkU 4 ?_
  try simp only [Act.put, p1, p2, p3, p4, p5, p6]
  refine tkU 5 ?_
  try simp only [Act.put, p1, p2, p3, p4, p5, p6]
  refine tkA 6 ?_
  try simp only [Act.put, p1, p2, p3, p4, p5, p6]
  refine tkA 7 ?_
  try simp only [Act.put, p1, p2, p3, p4, p5, p6]
  refine tkU 8 ?_
  try simp only [Act.put, p1, p2, p3, p4, p5, p6]
  refine tkU 9 ?_
  try simp only [Act.put, p1, p2, p3, p4, p5, p6]
  refine tkU 10 ?_
  try simp only [Act.put, p1, p2, p3, p4, p5, p6]
  refine tkA 11 ?_
  try simp only [Act.put, p1, p2, p3, p4, p5, p6]
  refine wpAnyH_ready (rs := [12]) (by kernel_rfl) (by simp) (AllReadyH.cons (o := _) rfl (fun K hK => ?_) AllReadyH.nil)
  have z512 := H510.out.cell 1 rfl 0 rfl
  have z513 := H510.out.free 1 rfl 0
  have z514 := H510.out.cell 1 rfl 1 rfl
  have z515 := H510.out.free 1 rfl 1
  have H516 := hid (show St _ _ (_ :: .cells (B + 1 + 1 + 1) #[.int .i64 lo467, .int .i64 hi468] 94 :: _) _ _ from ((H510.out.set 1 rfl 0 (.int .i64 lo467)).set 1 rfl 1 (.int .i64 hi468)))
  go_simp
  refine hK.out _ _ ?_ (fun hHeld2 => ?_)
  focus ((try dsimp only); (exact ⟨H516.out.cell 0 rfl 0 rfl, H516.out.cell 0 rfl 1 rfl⟩))
  clear hK K hHeld
  try simp only [Act.put, p1, p2, p3, p4, p5, p6]
  clear z512 z513 z514 z515
  generalize ((k511.setCell ⟨B + 1 + 1 + 1, 0, none⟩ (.int .i64 lo467)).setCell ⟨B + 1 + 1 + 1, 1, none⟩ (.int .i64 hi468)) = k517 at *
  have hHeld := hHeld2
  clear hHeld2
  refine tkA 13 ?_
  try simp only [Act.put, p1, p2, p3, p4, p5, p6]
  refine wpAnyH_done (by kernel_rfl) ?_ _
  try clear hHeld
  have z518 := H516.out.cell 1 rfl 0 rfl
  have z519 := H516.out.cell 1 rfl 1 rfl
  go_wp2_with fail
  clear z518 z519
  have q520 := H516.out.cell 1 rfl 0 rfl
  have q521 := H516.out.cell 1 rfl 1 rfl
  refine bodyPost_ret (v := .tuple #[.agg #[.int .i64 lo467, .int .i64 hi468], .bool false]) ?_ rfl ⟨⟨_, _, by rw [show pwIok 5 g (xl, xh) (yl, yh) 0 0 = false from by unfold pwIok; rw [if_pos rfl, HNb471.out]; rfl], fun h => by rw [show pwIok 5 g (xl, xh) (yl, yh) 0 0 = false from by unfold pwIok; rw [if_pos rfl, HNb471.out]; rfl] at h; cases h⟩, by first | exact H516.out.below | exact H516.out.below'⟩
  simp [results, Try.results76, go_sem, q520, q521]

set_option maxRecDepth 100000 in
set_option maxHeartbeats 3200000 in
theorem papply_any_6 (g xl xh yl yh : Int) (W : World) (hxl : accOk xl = true) (hxh : accOk xh = true) (hyl : accOk yl = true) (hyh : accOk yh = true) : Calls Try.prog 76 #[.agg #[.int .i64 6, .int .i64 g], .agg #[.int .i64 xl, .int .i64 xh], .agg #[.int .i64 yl, .int .i64 yh]] W fun e w' => (∃ lo hi, e = .returned (.tuple #[.agg #[.int .i64 lo, .int .i64 hi], .bool (pwIok 6 g (xl, xh) (yl, yh) 0 0)]) ∧ (pwIok 6 g (xl, xh) (yl, yh) 0 0 = true → lo = (pwInt 6 g (xl, xh) (yl, yh) 0 0).1 ∧ hi = (pwInt 6 g (xl, xh) (yl, yh) 0 0).2)) ∧ Below W.heap.size W w' := by
 obtain ⟨xl1, xl2⟩ := accOk_iff.1 hxl
 obtain ⟨xh1, xh2⟩ := accOk_iff.1 hxh
 obtain ⟨yl1, yl2⟩ := accOk_iff.1 hyl
 obtain ⟨yh1, yh2⟩ := accOk_iff.1 hyh
 obtain ⟨B, hB⟩ : ∃ B, W.heap.size = B := ⟨_, rfl⟩
 have HI0 := hid (St.init hB)
 go_enter Try.func76, Try.ntmps76
 go_upto_region 1 with fail
 have H522 := hid (show St _ _ (.cells (B + 1 + 1 + 1) _ _ :: .cells (B + 1 + 1) _ _ :: .cells (B + 1) _ _ :: .cells B _ _ :: _) _ _ from ((((HI0.out.alloc #[.int .i64 6, .int .i64 g] 57 hB).alloc #[.int .i64 xl, .int .i64 xh] 94 (by first | exact hB | simp [hB])).alloc #[.int .i64 yl, .int .i64 yh] 94 (by first | exact hB | simp [hB])).alloc #[.int .i64 0, .int .i64 0] 94 (by first | exact hB | simp [hB])))
 first | refine gen_code H522.out ?_ | refine gen_list H522.out ?_ | refine gen_calls H522.out ?_
 intro w523 hG
 clear H522
 have H522 := hid hG
 clear hG
 obtain ⟨D524, hD524⟩ : ∃ D, w523.heap.size = D := ⟨_, rfl⟩
 go_upto_region 2 with fail
 have H525 := hid (H522.out.alloc #[.int .i64 0, .int .i64 0] 94 hD524)
 first | refine gen_code H525.out ?_ | refine gen_list H525.out ?_ | refine gen_calls H525.out ?_
 intro w526 hG
 clear H525
 have H525 := hid hG
 clear hG
 clear hD524
 obtain ⟨m527, hm527⟩ : ∃ zz : Int, (if yl < xl then yl else xl) = zz := ⟨_, rfl⟩
 obtain ⟨m528, hm528⟩ : ∃ zz : Int, (if yh < xh then yh else xh) = zz := ⟨_, rfl⟩
 have z529 := H525.out.cell 4 rfl 0 rfl
 have z530 := H525.out.cell 4 rfl 1 rfl
 have z531 := H525.out.cell 3 rfl 0 rfl
 have z532 := H525.out.cell 3 rfl 1 rfl
 have z533 := H525.out.cell 2 rfl 0 rfl
 have z534 := H525.out.cell 2 rfl 1 rfl
 have z535 := H525.out.cell 0 rfl 0 rfl
 have z536 := H525.out.free 0 rfl 0
 have z537 := H525.out.cell 0 rfl 1 rfl
 have z538 := H525.out.free 0 rfl 1
 go_upto_region 22 with fail
 clear z529 z530 z531 z532 z533 z534 z535 z536 z537 z538
 have HNm527 := hid hm527
 clear hm527
 have HNm528 := hid hm528
 clear hm528
 have H539 := hid (show St _ _ (.cells D524 #[.int .i64 m527, .int .i64 m528] 94 :: _) _ _ from ((H525.out.set 0 rfl 0 (.int .i64 m527)).set 0 rfl 1 (.int .i64 m528)))
 first | refine gen_code H539.out ?_ | refine gen_list H539.out ?_ | refine gen_calls H539.out ?_
 intro w540 hG
 clear H539
 have H539 := hid hG
 clear hG
 have H541 := hid H539.out.drew
 refine wp_region_held_drew (S := (fun w' => w'.cell? ⟨D524, 0, none⟩ = some (.int .i64 m527) ∧ w'.cell? ⟨D524, 1, none⟩ = some (.int .i64 m528))) (by kernel_rfl) ⟨H541.out.cell 0 rfl 0 rfl, H541.out.cell 0 rfl 1 rfl⟩ (fun hHeld => ?_)
 generalize w540.drew = k542 at *
 refine tkA 0 ?_
 try simp only [Act.put, p1, p2, p3, p4, p5, p6]
 refine tkA 1 ?_
 try simp only [Act.put, p1, p2, p3, p4, p5, p6]
 refine tkA 2 ?_
 try simp only [Act.put, p1, p2, p3, p4, p5, p6]
 refine tkA 3 ?_
 try simp only [Act.put, p1, p2, p3, p4, p5, p6]
 refine tkA 4 ?_
 try simp only [Act.put, p1, p2, p3, p4, p5, p6]
 refine wpAnyH_ready (rs := [5]) (by kernel_rfl) (by simp) (AllReadyH.cons (o := _) rfl (fun K hK => ?_) AllReadyH.nil)
 go_simp
 go_at_call 87
 refine (pwithin_any _ _).mono ?_
 rintro e w543 ⟨rfl, hsw⟩
 have hsw2 : k542 = w543 := by first | exact hsw | exact hsw.symm
 clear hsw
 subst hsw2
 obtain ⟨b544, hb544⟩ : ∃ xx', accOk m527 = xx' := ⟨_, rfl⟩
 rw [hb544]
 have HNb544 := hid hb544
 clear hb544
 refine hK.out _ _ ?_ (fun hHeld2 => ?_)
 focus ((try dsimp only); (exact ⟨H541.out.cell 0 rfl 0 rfl, H541.out.cell 0 rfl 1 rfl⟩))
 clear hK K
 try simp only [Act.put, p1, p2, p3, p4, p5, p6]
 clear hHeld
 have hHeld := hHeld2
 clear hHeld2
 cases b544
 ·
  skip
  refine tkA 6 ?_
  try simp only [Act.put, p1, p2, p3, p4, p5, p6]
  refine tkA 7 ?_
  try simp only [Act.put, p1, p2, p3, p4, p5, p6]
  refine tkU 8 ?_
  try simp only [Act.put, p1, p2, p3, p4, p5, p6]
  refine tkU 9 ?_
  try simp only [Act.put, p1, p2, p3, p4, p5, p6]
  refine tkU 10 ?_
  try simp only [Act.put, p1, p2, p3, p4, p5, p6]
  refine tkA 11 ?_
  try simp only [Act.put, p1, p2, p3, p4, p5, p6]
  refine wpAnyH_ready (rs := [12]) (by kernel_rfl) (by simp) (AllReadyH.cons (o := _) rfl (fun K hK => ?_) AllReadyH.nil)
  have z545 := H541.out.cell 1 rfl 0 rfl
  have z546 := H541.out.free 1 rfl 0
  have z547 := H541.out.cell 1 rfl 1 rfl
  have z548 := H541.out.free 1 rfl 1
  have H549 := hid (show St _ _ (_ :: .cells (B + 1 + 1 + 1) #[.int .i64 m527, .int .i64 m528] 94 :: _) _ _ from ((H541.out.set 1 rfl 0 (.int .i64 m527)).set 1 rfl 1 (.int .i64 m528)))
  go_simp
  refine hK.out _ _ ?_ (fun hHeld2 => ?_)
  focus ((try dsimp only); (exact ⟨H549.out.cell 0 rfl 0 rfl, H549.out.cell 0 rfl 1 rfl⟩))
  clear hK K hHeld
  try simp only [Act.put, p1, p2, p3, p4, p5, p6]
  clear z545 z546 z547 z548
  generalize ((k542.setCell ⟨B + 1 + 1 + 1, 0, none⟩ (.int .i64 m527)).setCell ⟨B + 1 + 1 + 1, 1, none⟩ (.int .i64 m528)) = k550 at *
  have hHeld := hHeld2
  clear hHeld2
  refine tkA 13 ?_
  try simp only [Act.put, p1, p2, p3, p4, p5, p6]
  refine wpAnyH_done (by kernel_rfl) ?_ _
  try clear hHeld
  have z551 := H549.out.cell 1 rfl 0 rfl
  have z552 := H549.out.cell 1 rfl 1 rfl
  go_wp2_with fail
  clear z551 z552
  have hpk := hid (show pwIok 6 g (xl, xh) (yl, yh) 0 0 = false from by unfold pwIok; rw [(show (pwInt 6 g (xl, xh) (yl, yh) 0 0).1 = m527 from by rw [← HNm527.out]; rfl), (show (pwInt 6 g (xl, xh) (yl, yh) 0 0).2 = m528 from by rw [← HNm528.out]; rfl), HNb544.out]; rfl)
  have q553 := H549.out.cell 1 rfl 0 rfl
  have q554 := H549.out.cell 1 rfl 1 rfl
  refine bodyPost_ret (v := .tuple #[.agg #[.int .i64 m527, .int .i64 m528], .bool false]) ?_ rfl ⟨⟨_, _, by rw [hpk.out], fun _ => ⟨(show (pwInt 6 g (xl, xh) (yl, yh) 0 0).1 = m527 from by rw [← HNm527.out]; rfl).symm, (show (pwInt 6 g (xl, xh) (yl, yh) 0 0).2 = m528 from by rw [← HNm528.out]; rfl).symm⟩⟩, by first | exact H549.out.below | exact H549.out.below'⟩
  simp [results, Try.results76, go_sem, q553, q554]
 ·
  skip
  refine tkA 6 ?_
  try simp only [Act.put, p1, p2, p3, p4, p5, p6]
  refine tkA 7 ?_
  try simp only [Act.put, p1, p2, p3, p4, p5, p6]
  refine tkA 8 ?_
  try simp only [Act.put, p1, p2, p3, p4, p5, p6]
  refine tkA 9 ?_
  try simp only [Act.put, p1, p2, p3, p4, p5, p6]
  refine wpAnyH_ready (rs := [10]) (by kernel_rfl) (by simp) (AllReadyH.cons (o := _) rfl (fun K hK => ?_) AllReadyH.nil)
  go_simp
  go_at_call 87
  refine (pwithin_any _ _).mono ?_
  rintro e w555 ⟨rfl, hsw⟩
  have hsw2 : k542 = w555 := by first | exact hsw | exact hsw.symm
  clear hsw
  subst hsw2
  obtain ⟨b556, hb556⟩ : ∃ xx', accOk m528 = xx' := ⟨_, rfl⟩
  rw [hb556]
  have HNb556 := hid hb556
  clear hb556
  refine hK.out _ _ ?_ (fun hHeld2 => ?_)
  focus ((try dsimp only); (exact ⟨H541.out.cell 0 rfl 0 rfl, H541.out.cell 0 rfl 1 rfl⟩))
  clear hK K
  try simp only [Act.put, p1, p2, p3, p4, p5, p6]
  clear hHeld
  have hHeld := hHeld2
  clear hHeld2
  refine tkA 11 ?_
  try simp only [Act.put, p1, p2, p3, p4, p5, p6]
  refine wpAnyH_ready (rs := [12]) (by kernel_rfl) (by simp) (AllReadyH.cons (o := _) rfl (fun K hK => ?_) AllReadyH.nil)
  have z557 := H541.out.cell 1 rfl 0 rfl
  have z558 := H541.out.free 1 rfl 0
  have z559 := H541.out.cell 1 rfl 1 rfl
  have z560 := H541.out.free 1 rfl 1
  have H561 := hid (show St _ _ (_ :: .cells (B + 1 + 1 + 1) #[.int .i64 m527, .int .i64 m528] 94 :: _) _ _ from ((H541.out.set 1 rfl 0 (.int .i64 m527)).set 1 rfl 1 (.int .i64 m528)))
  go_simp
  refine hK.out _ _ ?_ (fun hHeld2 => ?_)
  focus ((try dsimp only); (exact ⟨H561.out.cell 0 rfl 0 rfl, H561.out.cell 0 rfl 1 rfl⟩))
  clear hK K hHeld
  try simp only [Act.put, p1, p2, p3, p4, p5, p6]
  clear z557 z558 z559 z560
  generalize ((k542.setCell ⟨B + 1 + 1 + 1, 0, none⟩ (.int .i64 m527)).setCell ⟨B + 1 + 1 + 1, 1, none⟩ (.int .i64 m528)) = k562 at *
  have hHeld := hHeld2
  clear hHeld2
  refine tkA 13 ?_
  try simp only [Act.put, p1, p2, p3, p4, p5, p6]
  refine wpAnyH_done (by kernel_rfl) ?_ _
  try clear hHeld
  have z563 := H561.out.cell 1 rfl 0 rfl
  have z564 := H561.out.cell 1 rfl 1 rfl
  go_wp2_with fail
  clear z563 z564
  have hpk := hid (show pwIok 6 g (xl, xh) (yl, yh) 0 0 = b556 from by unfold pwIok; rw [(show (pwInt 6 g (xl, xh) (yl, yh) 0 0).1 = m527 from by rw [← HNm527.out]; rfl), (show (pwInt 6 g (xl, xh) (yl, yh) 0 0).2 = m528 from by rw [← HNm528.out]; rfl), HNb544.out, HNb556.out]; rfl)
  have q565 := H561.out.cell 1 rfl 0 rfl
  have q566 := H561.out.cell 1 rfl 1 rfl
  refine bodyPost_ret (v := .tuple #[.agg #[.int .i64 m527, .int .i64 m528], .bool b556]) ?_ rfl ⟨⟨_, _, by rw [hpk.out], fun _ => ⟨(show (pwInt 6 g (xl, xh) (yl, yh) 0 0).1 = m527 from by rw [← HNm527.out]; rfl).symm, (show (pwInt 6 g (xl, xh) (yl, yh) 0 0).2 = m528 from by rw [← HNm528.out]; rfl).symm⟩⟩, by first | exact H561.out.below | exact H561.out.below'⟩
  simp [results, Try.results76, go_sem, q565, q566]

set_option maxRecDepth 100000 in
set_option maxHeartbeats 3200000 in
theorem papply_any_7 (g xl xh yl yh : Int) (W : World) (hxl : accOk xl = true) (hxh : accOk xh = true) (hyl : accOk yl = true) (hyh : accOk yh = true) : Calls Try.prog 76 #[.agg #[.int .i64 7, .int .i64 g], .agg #[.int .i64 xl, .int .i64 xh], .agg #[.int .i64 yl, .int .i64 yh]] W fun e w' => (∃ lo hi, e = .returned (.tuple #[.agg #[.int .i64 lo, .int .i64 hi], .bool (pwIok 7 g (xl, xh) (yl, yh) 0 0)]) ∧ (pwIok 7 g (xl, xh) (yl, yh) 0 0 = true → lo = (pwInt 7 g (xl, xh) (yl, yh) 0 0).1 ∧ hi = (pwInt 7 g (xl, xh) (yl, yh) 0 0).2)) ∧ Below W.heap.size W w' := by
 obtain ⟨xl1, xl2⟩ := accOk_iff.1 hxl
 obtain ⟨xh1, xh2⟩ := accOk_iff.1 hxh
 obtain ⟨yl1, yl2⟩ := accOk_iff.1 hyl
 obtain ⟨yh1, yh2⟩ := accOk_iff.1 hyh
 obtain ⟨B, hB⟩ : ∃ B, W.heap.size = B := ⟨_, rfl⟩
 have HI0 := hid (St.init hB)
 go_enter Try.func76, Try.ntmps76
 go_upto_region 1 with fail
 have H567 := hid (show St _ _ (.cells (B + 1 + 1 + 1) _ _ :: .cells (B + 1 + 1) _ _ :: .cells (B + 1) _ _ :: .cells B _ _ :: _) _ _ from ((((HI0.out.alloc #[.int .i64 7, .int .i64 g] 57 hB).alloc #[.int .i64 xl, .int .i64 xh] 94 (by first | exact hB | simp [hB])).alloc #[.int .i64 yl, .int .i64 yh] 94 (by first | exact hB | simp [hB])).alloc #[.int .i64 0, .int .i64 0] 94 (by first | exact hB | simp [hB])))
 first | refine gen_code H567.out ?_ | refine gen_list H567.out ?_ | refine gen_calls H567.out ?_
 intro w568 hG
 clear H567
 have H567 := hid hG
 clear hG
 obtain ⟨D569, hD569⟩ : ∃ D, w568.heap.size = D := ⟨_, rfl⟩
 go_upto_region 2 with fail
 have H570 := hid (H567.out.alloc #[.int .i64 0, .int .i64 0] 94 hD569)
 first | refine gen_code H570.out ?_ | refine gen_list H570.out ?_ | refine gen_calls H570.out ?_
 intro w571 hG
 clear H570
 have H570 := hid hG
 clear hG
 clear hD569
 obtain ⟨m572, hm572⟩ : ∃ zz : Int, (if xl < yl then yl else xl) = zz := ⟨_, rfl⟩
 obtain ⟨m573, hm573⟩ : ∃ zz : Int, (if xh < yh then yh else xh) = zz := ⟨_, rfl⟩
 have z574 := H570.out.cell 4 rfl 0 rfl
 have z575 := H570.out.cell 4 rfl 1 rfl
 have z576 := H570.out.cell 3 rfl 0 rfl
 have z577 := H570.out.cell 3 rfl 1 rfl
 have z578 := H570.out.cell 2 rfl 0 rfl
 have z579 := H570.out.cell 2 rfl 1 rfl
 have z580 := H570.out.cell 0 rfl 0 rfl
 have z581 := H570.out.free 0 rfl 0
 have z582 := H570.out.cell 0 rfl 1 rfl
 have z583 := H570.out.free 0 rfl 1
 go_upto_region 22 with fail
 clear z574 z575 z576 z577 z578 z579 z580 z581 z582 z583
 have HNm572 := hid hm572
 clear hm572
 have HNm573 := hid hm573
 clear hm573
 have H584 := hid (show St _ _ (.cells D569 #[.int .i64 m572, .int .i64 m573] 94 :: _) _ _ from ((H570.out.set 0 rfl 0 (.int .i64 m572)).set 0 rfl 1 (.int .i64 m573)))
 first | refine gen_code H584.out ?_ | refine gen_list H584.out ?_ | refine gen_calls H584.out ?_
 intro w585 hG
 clear H584
 have H584 := hid hG
 clear hG
 have H586 := hid H584.out.drew
 refine wp_region_held_drew (S := (fun w' => w'.cell? ⟨D569, 0, none⟩ = some (.int .i64 m572) ∧ w'.cell? ⟨D569, 1, none⟩ = some (.int .i64 m573))) (by kernel_rfl) ⟨H586.out.cell 0 rfl 0 rfl, H586.out.cell 0 rfl 1 rfl⟩ (fun hHeld => ?_)
 generalize w585.drew = k587 at *
 refine tkA 0 ?_
 try simp only [Act.put, p1, p2, p3, p4, p5, p6]
 refine tkA 1 ?_
 try simp only [Act.put, p1, p2, p3, p4, p5, p6]
 refine tkA 2 ?_
 try simp only [Act.put, p1, p2, p3, p4, p5, p6]
 refine tkA 3 ?_
 try simp only [Act.put, p1, p2, p3, p4, p5, p6]
 refine tkA 4 ?_
 try simp only [Act.put, p1, p2, p3, p4, p5, p6]
 refine wpAnyH_ready (rs := [5]) (by kernel_rfl) (by simp) (AllReadyH.cons (o := _) rfl (fun K hK => ?_) AllReadyH.nil)
 go_simp
 go_at_call 87
 refine (pwithin_any _ _).mono ?_
 rintro e w588 ⟨rfl, hsw⟩
 have hsw2 : k587 = w588 := by first | exact hsw | exact hsw.symm
 clear hsw
 subst hsw2
 obtain ⟨b589, hb589⟩ : ∃ xx', accOk m572 = xx' := ⟨_, rfl⟩
 rw [hb589]
 have HNb589 := hid hb589
 clear hb589
 refine hK.out _ _ ?_ (fun hHeld2 => ?_)
 focus ((try dsimp only); (exact ⟨H586.out.cell 0 rfl 0 rfl, H586.out.cell 0 rfl 1 rfl⟩))
 clear hK K
 try simp only [Act.put, p1, p2, p3, p4, p5, p6]
 clear hHeld
 have hHeld := hHeld2
 clear hHeld2
 cases b589
 ·
  skip
  refine tkA 6 ?_
  try simp only [Act.put, p1, p2, p3, p4, p5, p6]
  refine tkA 7 ?_
  try simp only [Act.put, p1, p2, p3, p4, p5, p6]
  refine tkU 8 ?_
  try simp only [Act.put, p1, p2, p3, p4, p5, p6]
  refine tkU 9 ?_
  try simp only [Act.put, p1, p2, p3, p4, p5, p6]
  refine tkU 10 ?_
  try simp only [Act.put, p1, p2, p3, p4, p5, p6]
  refine tkA 11 ?_
  try simp only [Act.put, p1, p2, p3, p4, p5, p6]
  refine wpAnyH_ready (rs := [12]) (by kernel_rfl) (by simp) (AllReadyH.cons (o := _) rfl (fun K hK => ?_) AllReadyH.nil)
  have z590 := H586.out.cell 1 rfl 0 rfl
  have z591 := H586.out.free 1 rfl 0
  have z592 := H586.out.cell 1 rfl 1 rfl
  have z593 := H586.out.free 1 rfl 1
  have H594 := hid (show St _ _ (_ :: .cells (B + 1 + 1 + 1) #[.int .i64 m572, .int .i64 m573] 94 :: _) _ _ from ((H586.out.set 1 rfl 0 (.int .i64 m572)).set 1 rfl 1 (.int .i64 m573)))
  go_simp
  refine hK.out _ _ ?_ (fun hHeld2 => ?_)
  focus ((try dsimp only); (exact ⟨H594.out.cell 0 rfl 0 rfl, H594.out.cell 0 rfl 1 rfl⟩))
  clear hK K hHeld
  try simp only [Act.put, p1, p2, p3, p4, p5, p6]
  clear z590 z591 z592 z593
  generalize ((k587.setCell ⟨B + 1 + 1 + 1, 0, none⟩ (.int .i64 m572)).setCell ⟨B + 1 + 1 + 1, 1, none⟩ (.int .i64 m573)) = k595 at *
  have hHeld := hHeld2
  clear hHeld2
  refine tkA 13 ?_
  try simp only [Act.put, p1, p2, p3, p4, p5, p6]
  refine wpAnyH_done (by kernel_rfl) ?_ _
  try clear hHeld
  have z596 := H594.out.cell 1 rfl 0 rfl
  have z597 := H594.out.cell 1 rfl 1 rfl
  go_wp2_with fail
  clear z596 z597
  have hpk := hid (show pwIok 7 g (xl, xh) (yl, yh) 0 0 = false from by unfold pwIok; rw [(show (pwInt 7 g (xl, xh) (yl, yh) 0 0).1 = m572 from by rw [← HNm572.out]; rfl), (show (pwInt 7 g (xl, xh) (yl, yh) 0 0).2 = m573 from by rw [← HNm573.out]; rfl), HNb589.out]; rfl)
  have q598 := H594.out.cell 1 rfl 0 rfl
  have q599 := H594.out.cell 1 rfl 1 rfl
  refine bodyPost_ret (v := .tuple #[.agg #[.int .i64 m572, .int .i64 m573], .bool false]) ?_ rfl ⟨⟨_, _, by rw [hpk.out], fun _ => ⟨(show (pwInt 7 g (xl, xh) (yl, yh) 0 0).1 = m572 from by rw [← HNm572.out]; rfl).symm, (show (pwInt 7 g (xl, xh) (yl, yh) 0 0).2 = m573 from by rw [← HNm573.out]; rfl).symm⟩⟩, by first | exact H594.out.below | exact H594.out.below'⟩
  simp [results, Try.results76, go_sem, q598, q599]
 ·
  skip
  refine tkA 6 ?_
  try simp only [Act.put, p1, p2, p3, p4, p5, p6]
  refine tkA 7 ?_
  try simp only [Act.put, p1, p2, p3, p4, p5, p6]
  refine tkA 8 ?_
  try simp only [Act.put, p1, p2, p3, p4, p5, p6]
  refine tkA 9 ?_
  try simp only [Act.put, p1, p2, p3, p4, p5, p6]
  refine wpAnyH_ready (rs := [10]) (by kernel_rfl) (by simp) (AllReadyH.cons (o := _) rfl (fun K hK => ?_) AllReadyH.nil)
  go_simp
  go_at_call 87
  refine (pwithin_any _ _).mono ?_
  rintro e w600 ⟨rfl, hsw⟩
  have hsw2 : k587 = w600 := by first | exact hsw | exact hsw.symm
  clear hsw
  subst hsw2
  obtain ⟨b601, hb601⟩ : ∃ xx', accOk m573 = xx' := ⟨_, rfl⟩
  rw [hb601]
  have HNb601 := hid hb601
  clear hb601
  refine hK.out _ _ ?_ (fun hHeld2 => ?_)
  focus ((try dsimp only); (exact ⟨H586.out.cell 0 rfl 0 rfl, H586.out.cell 0 rfl 1 rfl⟩))
  clear hK K
  try simp only [Act.put, p1, p2, p3, p4, p5, p6]
  clear hHeld
  have hHeld := hHeld2
  clear hHeld2
  refine tkA 11 ?_
  try simp only [Act.put, p1, p2, p3, p4, p5, p6]
  refine wpAnyH_ready (rs := [12]) (by kernel_rfl) (by simp) (AllReadyH.cons (o := _) rfl (fun K hK => ?_) AllReadyH.nil)
  have z602 := H586.out.cell 1 rfl 0 rfl
  have z603 := H586.out.free 1 rfl 0
  have z604 := H586.out.cell 1 rfl 1 rfl
  have z605 := H586.out.free 1 rfl 1
  have H606 := hid (show St _ _ (_ :: .cells (B + 1 + 1 + 1) #[.int .i64 m572, .int .i64 m573] 94 :: _) _ _ from ((H586.out.set 1 rfl 0 (.int .i64 m572)).set 1 rfl 1 (.int .i64 m573)))
  go_simp
  refine hK.out _ _ ?_ (fun hHeld2 => ?_)
  focus ((try dsimp only); (exact ⟨H606.out.cell 0 rfl 0 rfl, H606.out.cell 0 rfl 1 rfl⟩))
  clear hK K hHeld
  try simp only [Act.put, p1, p2, p3, p4, p5, p6]
  clear z602 z603 z604 z605
  generalize ((k587.setCell ⟨B + 1 + 1 + 1, 0, none⟩ (.int .i64 m572)).setCell ⟨B + 1 + 1 + 1, 1, none⟩ (.int .i64 m573)) = k607 at *
  have hHeld := hHeld2
  clear hHeld2
  refine tkA 13 ?_
  try simp only [Act.put, p1, p2, p3, p4, p5, p6]
  refine wpAnyH_done (by kernel_rfl) ?_ _
  try clear hHeld
  have z608 := H606.out.cell 1 rfl 0 rfl
  have z609 := H606.out.cell 1 rfl 1 rfl
  go_wp2_with fail
  clear z608 z609
  have hpk := hid (show pwIok 7 g (xl, xh) (yl, yh) 0 0 = b601 from by unfold pwIok; rw [(show (pwInt 7 g (xl, xh) (yl, yh) 0 0).1 = m572 from by rw [← HNm572.out]; rfl), (show (pwInt 7 g (xl, xh) (yl, yh) 0 0).2 = m573 from by rw [← HNm573.out]; rfl), HNb589.out, HNb601.out]; rfl)
  have q610 := H606.out.cell 1 rfl 0 rfl
  have q611 := H606.out.cell 1 rfl 1 rfl
  refine bodyPost_ret (v := .tuple #[.agg #[.int .i64 m572, .int .i64 m573], .bool b601]) ?_ rfl ⟨⟨_, _, by rw [hpk.out], fun _ => ⟨(show (pwInt 7 g (xl, xh) (yl, yh) 0 0).1 = m572 from by rw [← HNm572.out]; rfl).symm, (show (pwInt 7 g (xl, xh) (yl, yh) 0 0).2 = m573 from by rw [← HNm573.out]; rfl).symm⟩⟩, by first | exact H606.out.below | exact H606.out.below'⟩
  simp [results, Try.results76, go_sem, q610, q611]

set_option maxRecDepth 100000 in
set_option maxHeartbeats 3200000 in
theorem papply_any_8 (g xl xh yl yh : Int) (W : World) (hxl : accOk xl = true) (hxh : accOk xh = true) (hyl : accOk yl = true) (hyh : accOk yh = true) : Calls Try.prog 76 #[.agg #[.int .i64 8, .int .i64 g], .agg #[.int .i64 xl, .int .i64 xh], .agg #[.int .i64 yl, .int .i64 yh]] W fun e w' => (∃ lo hi, e = .returned (.tuple #[.agg #[.int .i64 lo, .int .i64 hi], .bool (pwIok 8 g (xl, xh) (yl, yh) 0 0)]) ∧ (pwIok 8 g (xl, xh) (yl, yh) 0 0 = true → lo = (pwInt 8 g (xl, xh) (yl, yh) 0 0).1 ∧ hi = (pwInt 8 g (xl, xh) (yl, yh) 0 0).2)) ∧ Below W.heap.size W w' := by
 obtain ⟨xl1, xl2⟩ := accOk_iff.1 hxl
 obtain ⟨xh1, xh2⟩ := accOk_iff.1 hxh
 obtain ⟨yl1, yl2⟩ := accOk_iff.1 hyl
 obtain ⟨yh1, yh2⟩ := accOk_iff.1 hyh
 obtain ⟨B, hB⟩ : ∃ B, W.heap.size = B := ⟨_, rfl⟩
 have HI0 := hid (St.init hB)
 go_enter Try.func76, Try.ntmps76
 go_upto_region 1 with fail
 have H612 := hid (show St _ _ (.cells (B + 1 + 1 + 1) _ _ :: .cells (B + 1 + 1) _ _ :: .cells (B + 1) _ _ :: .cells B _ _ :: _) _ _ from ((((HI0.out.alloc #[.int .i64 8, .int .i64 g] 57 hB).alloc #[.int .i64 xl, .int .i64 xh] 94 (by first | exact hB | simp [hB])).alloc #[.int .i64 yl, .int .i64 yh] 94 (by first | exact hB | simp [hB])).alloc #[.int .i64 0, .int .i64 0] 94 (by first | exact hB | simp [hB])))
 first | refine gen_code H612.out ?_ | refine gen_list H612.out ?_ | refine gen_calls H612.out ?_
 intro w613 hG
 clear H612
 have H612 := hid hG
 clear hG
 obtain ⟨D614, hD614⟩ : ∃ D, w613.heap.size = D := ⟨_, rfl⟩
 go_upto_region 2 with fail
 have H615 := hid (H612.out.alloc #[.int .i64 0, .int .i64 0] 94 hD614)
 first | refine gen_code H615.out ?_ | refine gen_list H615.out ?_ | refine gen_calls H615.out ?_
 intro w616 hG
 clear H615
 have H615 := hid hG
 clear hG
 clear hD614
 obtain ⟨m617, hm617⟩ : ∃ zz : Int, (if (xh - yl) < (yh - xl) then yh - xl else xh - yl) = zz := ⟨_, rfl⟩
 have z618 := H615.out.cell 4 rfl 0 rfl
 have z619 := H615.out.cell 4 rfl 1 rfl
 have z620 := H615.out.cell 3 rfl 0 rfl
 have z621 := H615.out.cell 3 rfl 1 rfl
 have z622 := H615.out.cell 2 rfl 0 rfl
 have z623 := H615.out.cell 2 rfl 1 rfl
 have z624 := H615.out.cell 0 rfl 0 rfl
 have z625 := H615.out.free 0 rfl 0
 have z626 := H615.out.cell 0 rfl 1 rfl
 have z627 := H615.out.free 0 rfl 1
 go_upto_region 22 with fail
 clear z618 z619 z620 z621 z622 z623 z624 z625 z626 z627
 have HNm617 := hid hm617
 clear hm617
 have H628 := hid (show St _ _ (.cells D614 #[.int .i64 0, .int .i64 m617] 94 :: _) _ _ from ((H615.out.set 0 rfl 0 (.int .i64 0)).set 0 rfl 1 (.int .i64 m617)))
 first | refine gen_code H628.out ?_ | refine gen_list H628.out ?_ | refine gen_calls H628.out ?_
 intro w629 hG
 clear H628
 have H628 := hid hG
 clear hG
 have H630 := hid H628.out.drew
 refine wp_region_held_drew (S := (fun w' => w'.cell? ⟨D614, 0, none⟩ = some (.int .i64 0) ∧ w'.cell? ⟨D614, 1, none⟩ = some (.int .i64 m617))) (by kernel_rfl) ⟨H630.out.cell 0 rfl 0 rfl, H630.out.cell 0 rfl 1 rfl⟩ (fun hHeld => ?_)
 generalize w629.drew = k631 at *
 refine tkA 0 ?_
 try simp only [Act.put, p1, p2, p3, p4, p5, p6]
 refine tkA 1 ?_
 try simp only [Act.put, p1, p2, p3, p4, p5, p6]
 refine tkA 2 ?_
 try simp only [Act.put, p1, p2, p3, p4, p5, p6]
 refine tkA 3 ?_
 try simp only [Act.put, p1, p2, p3, p4, p5, p6]
 refine tkA 4 ?_
 try simp only [Act.put, p1, p2, p3, p4, p5, p6]
 refine wpAnyH_ready (rs := [5]) (by kernel_rfl) (by simp) (AllReadyH.cons (o := _) rfl (fun K hK => ?_) AllReadyH.nil)
 go_simp
 go_at_call 87
 refine (pwithin_any _ _).mono ?_
 rintro e w632 ⟨rfl, hsw⟩
 have hsw2 : k631 = w632 := by first | exact hsw | exact hsw.symm
 clear hsw
 subst hsw2
 obtain ⟨b633, hb633⟩ : ∃ xx', accOk 0 = xx' := ⟨_, rfl⟩
 rw [hb633]
 have HNb633 := hid hb633
 clear hb633
 refine hK.out _ _ ?_ (fun hHeld2 => ?_)
 focus ((try dsimp only); (exact ⟨H630.out.cell 0 rfl 0 rfl, H630.out.cell 0 rfl 1 rfl⟩))
 clear hK K
 try simp only [Act.put, p1, p2, p3, p4, p5, p6]
 clear hHeld
 have hHeld := hHeld2
 clear hHeld2
 cases b633
 ·
  skip
  refine tkA 6 ?_
  try simp only [Act.put, p1, p2, p3, p4, p5, p6]
  refine tkA 7 ?_
  try simp only [Act.put, p1, p2, p3, p4, p5, p6]
  refine tkU 8 ?_
  try simp only [Act.put, p1, p2, p3, p4, p5, p6]
  refine tkU 9 ?_
  try simp only [Act.put, p1, p2, p3, p4, p5, p6]
  refine tkU 10 ?_
  try simp only [Act.put, p1, p2, p3, p4, p5, p6]
  refine tkA 11 ?_
  try simp only [Act.put, p1, p2, p3, p4, p5, p6]
  refine wpAnyH_ready (rs := [12]) (by kernel_rfl) (by simp) (AllReadyH.cons (o := _) rfl (fun K hK => ?_) AllReadyH.nil)
  have z634 := H630.out.cell 1 rfl 0 rfl
  have z635 := H630.out.free 1 rfl 0
  have z636 := H630.out.cell 1 rfl 1 rfl
  have z637 := H630.out.free 1 rfl 1
  have H638 := hid (show St _ _ (_ :: .cells (B + 1 + 1 + 1) #[.int .i64 0, .int .i64 m617] 94 :: _) _ _ from ((H630.out.set 1 rfl 0 (.int .i64 0)).set 1 rfl 1 (.int .i64 m617)))
  go_simp
  refine hK.out _ _ ?_ (fun hHeld2 => ?_)
  focus ((try dsimp only); (exact ⟨H638.out.cell 0 rfl 0 rfl, H638.out.cell 0 rfl 1 rfl⟩))
  clear hK K hHeld
  try simp only [Act.put, p1, p2, p3, p4, p5, p6]
  clear z634 z635 z636 z637
  generalize ((k631.setCell ⟨B + 1 + 1 + 1, 0, none⟩ (.int .i64 0)).setCell ⟨B + 1 + 1 + 1, 1, none⟩ (.int .i64 m617)) = k639 at *
  have hHeld := hHeld2
  clear hHeld2
  refine tkA 13 ?_
  try simp only [Act.put, p1, p2, p3, p4, p5, p6]
  refine wpAnyH_done (by kernel_rfl) ?_ _
  try clear hHeld
  have z640 := H638.out.cell 1 rfl 0 rfl
  have z641 := H638.out.cell 1 rfl 1 rfl
  go_wp2_with fail
  clear z640 z641
  have hpk := hid (show pwIok 8 g (xl, xh) (yl, yh) 0 0 = false from by unfold pwIok; rw [(show (pwInt 8 g (xl, xh) (yl, yh) 0 0).1 = 0 from rfl), (show (pwInt 8 g (xl, xh) (yl, yh) 0 0).2 = m617 from by rw [← HNm617.out]; rfl), HNb633.out]; rfl)
  have q642 := H638.out.cell 1 rfl 0 rfl
  have q643 := H638.out.cell 1 rfl 1 rfl
  refine bodyPost_ret (v := .tuple #[.agg #[.int .i64 0, .int .i64 m617], .bool false]) ?_ rfl ⟨⟨_, _, by rw [hpk.out], fun _ => ⟨(show (pwInt 8 g (xl, xh) (yl, yh) 0 0).1 = 0 from rfl).symm, (show (pwInt 8 g (xl, xh) (yl, yh) 0 0).2 = m617 from by rw [← HNm617.out]; rfl).symm⟩⟩, by first | exact H638.out.below | exact H638.out.below'⟩
  simp [results, Try.results76, go_sem, q642, q643]
 ·
  skip
  refine tkA 6 ?_
  try simp only [Act.put, p1, p2, p3, p4, p5, p6]
  refine tkA 7 ?_
  try simp only [Act.put, p1, p2, p3, p4, p5, p6]
  refine tkA 8 ?_
  try simp only [Act.put, p1, p2, p3, p4, p5, p6]
  refine tkA 9 ?_
  try simp only [Act.put, p1, p2, p3, p4, p5, p6]
  refine wpAnyH_ready (rs := [10]) (by kernel_rfl) (by simp) (AllReadyH.cons (o := _) rfl (fun K hK => ?_) AllReadyH.nil)
  go_simp
  go_at_call 87
  refine (pwithin_any _ _).mono ?_
  rintro e w644 ⟨rfl, hsw⟩
  have hsw2 : k631 = w644 := by first | exact hsw | exact hsw.symm
  clear hsw
  subst hsw2
  obtain ⟨b645, hb645⟩ : ∃ xx', accOk m617 = xx' := ⟨_, rfl⟩
  rw [hb645]
  have HNb645 := hid hb645
  clear hb645
  refine hK.out _ _ ?_ (fun hHeld2 => ?_)
  focus ((try dsimp only); (exact ⟨H630.out.cell 0 rfl 0 rfl, H630.out.cell 0 rfl 1 rfl⟩))
  clear hK K
  try simp only [Act.put, p1, p2, p3, p4, p5, p6]
  clear hHeld
  have hHeld := hHeld2
  clear hHeld2
  refine tkA 11 ?_
  try simp only [Act.put, p1, p2, p3, p4, p5, p6]
  refine wpAnyH_ready (rs := [12]) (by kernel_rfl) (by simp) (AllReadyH.cons (o := _) rfl (fun K hK => ?_) AllReadyH.nil)
  have z646 := H630.out.cell 1 rfl 0 rfl
  have z647 := H630.out.free 1 rfl 0
  have z648 := H630.out.cell 1 rfl 1 rfl
  have z649 := H630.out.free 1 rfl 1
  have H650 := hid (show St _ _ (_ :: .cells (B + 1 + 1 + 1) #[.int .i64 0, .int .i64 m617] 94 :: _) _ _ from ((H630.out.set 1 rfl 0 (.int .i64 0)).set 1 rfl 1 (.int .i64 m617)))
  go_simp
  refine hK.out _ _ ?_ (fun hHeld2 => ?_)
  focus ((try dsimp only); (exact ⟨H650.out.cell 0 rfl 0 rfl, H650.out.cell 0 rfl 1 rfl⟩))
  clear hK K hHeld
  try simp only [Act.put, p1, p2, p3, p4, p5, p6]
  clear z646 z647 z648 z649
  generalize ((k631.setCell ⟨B + 1 + 1 + 1, 0, none⟩ (.int .i64 0)).setCell ⟨B + 1 + 1 + 1, 1, none⟩ (.int .i64 m617)) = k651 at *
  have hHeld := hHeld2
  clear hHeld2
  refine tkA 13 ?_
  try simp only [Act.put, p1, p2, p3, p4, p5, p6]
  refine wpAnyH_done (by kernel_rfl) ?_ _
  try clear hHeld
  have z652 := H650.out.cell 1 rfl 0 rfl
  have z653 := H650.out.cell 1 rfl 1 rfl
  go_wp2_with fail
  clear z652 z653
  have hpk := hid (show pwIok 8 g (xl, xh) (yl, yh) 0 0 = b645 from by unfold pwIok; rw [(show (pwInt 8 g (xl, xh) (yl, yh) 0 0).1 = 0 from rfl), (show (pwInt 8 g (xl, xh) (yl, yh) 0 0).2 = m617 from by rw [← HNm617.out]; rfl), HNb633.out, HNb645.out]; rfl)
  have q654 := H650.out.cell 1 rfl 0 rfl
  have q655 := H650.out.cell 1 rfl 1 rfl
  refine bodyPost_ret (v := .tuple #[.agg #[.int .i64 0, .int .i64 m617], .bool b645]) ?_ rfl ⟨⟨_, _, by rw [hpk.out], fun _ => ⟨(show (pwInt 8 g (xl, xh) (yl, yh) 0 0).1 = 0 from rfl).symm, (show (pwInt 8 g (xl, xh) (yl, yh) 0 0).2 = m617 from by rw [← HNm617.out]; rfl).symm⟩⟩, by first | exact H650.out.below | exact H650.out.below'⟩
  simp [results, Try.results76, go_sem, q654, q655]

set_option maxRecDepth 100000 in
set_option maxHeartbeats 3200000 in
theorem papply_any_9 (g xl xh yl yh : Int) (W : World) (hxl : accOk xl = true) (hxh : accOk xh = true) (hyl : accOk yl = true) (hyh : accOk yh = true) : Calls Try.prog 76 #[.agg #[.int .i64 9, .int .i64 g], .agg #[.int .i64 xl, .int .i64 xh], .agg #[.int .i64 yl, .int .i64 yh]] W fun e w' => (∃ lo hi, e = .returned (.tuple #[.agg #[.int .i64 lo, .int .i64 hi], .bool (pwIok 9 g (xl, xh) (yl, yh) 0 0)]) ∧ (pwIok 9 g (xl, xh) (yl, yh) 0 0 = true → lo = (pwInt 9 g (xl, xh) (yl, yh) 0 0).1 ∧ hi = (pwInt 9 g (xl, xh) (yl, yh) 0 0).2)) ∧ Below W.heap.size W w' := by
 obtain ⟨xl1, xl2⟩ := accOk_iff.1 hxl
 obtain ⟨xh1, xh2⟩ := accOk_iff.1 hxh
 obtain ⟨yl1, yl2⟩ := accOk_iff.1 hyl
 obtain ⟨yh1, yh2⟩ := accOk_iff.1 hyh
 obtain ⟨B, hB⟩ : ∃ B, W.heap.size = B := ⟨_, rfl⟩
 have HI0 := hid (St.init hB)
 go_enter Try.func76, Try.ntmps76
 go_upto_region 1 with fail
 have H656 := hid (show St _ _ (.cells (B + 1 + 1 + 1) _ _ :: .cells (B + 1 + 1) _ _ :: .cells (B + 1) _ _ :: .cells B _ _ :: _) _ _ from ((((HI0.out.alloc #[.int .i64 9, .int .i64 g] 57 hB).alloc #[.int .i64 xl, .int .i64 xh] 94 (by first | exact hB | simp [hB])).alloc #[.int .i64 yl, .int .i64 yh] 94 (by first | exact hB | simp [hB])).alloc #[.int .i64 0, .int .i64 0] 94 (by first | exact hB | simp [hB])))
 first | refine gen_code H656.out ?_ | refine gen_list H656.out ?_ | refine gen_calls H656.out ?_
 intro w657 hG
 clear H656
 have H656 := hid hG
 clear hG
 obtain ⟨D658, hD658⟩ : ∃ D, w657.heap.size = D := ⟨_, rfl⟩
 go_upto_region 2 with fail
 have H659 := hid (H656.out.alloc #[.int .i64 0, .int .i64 0] 94 hD658)
 first | refine gen_code H659.out ?_ | refine gen_list H659.out ?_ | refine gen_calls H659.out ?_
 intro w660 hG
 clear H659
 have H659 := hid hG
 clear hG
 clear hD658
 have z661 := H659.out.cell 4 rfl 0 rfl
 have z662 := H659.out.cell 4 rfl 1 rfl
 go_upto_region 17 with fail
 clear z661 z662
 have H663 := hid H659.out.drew
 refine wp_region_held_drew (S := (fun w' => w'.cell? ⟨B + 1, 0, none⟩ = some (.int .i64 xl) ∧ w'.cell? ⟨B + 1, 1, none⟩ = some (.int .i64 xh))) (by kernel_rfl) ⟨H663.out.cell 3 rfl 0 rfl, H663.out.cell 3 rfl 1 rfl⟩ (fun hHeld => ?_)
 generalize w660.drew = k664 at *
 refine tkA 0 ?_
 try simp only [Act.put, p1, p2, p3, p4, p5, p6]
 refine tkA 3 ?_
 try simp only [Act.put, p1, p2, p3, p4, p5, p6]
 refine wpAnyH_ready (rs := [1]) (by kernel_rfl) (by simp) (AllReadyH.cons (o := _) rfl (fun K hK => ?_) AllReadyH.nil)
 go_simp
 go_at_call 86
 refine (pmag_any _ _ _ hxl hxh).mono ?_
 rintro e w665 ⟨rfl, hb⟩
 have H666 := hid (H663.out.call hb)
 clear hb
 obtain ⟨t667, ht667⟩ : ∃ xx', mxI (absI xl) (absI xh) = xx' := ⟨_, rfl⟩
 rw [ht667]
 have HNt667 := hid ht667
 clear ht667
 obtain ⟨t667a, t667b⟩ : 0 ≤ t667 ∧ t667 ≤ 17592186044416 := by rw [← HNt667.out]; exact mag_bd hxl hxh
 have t667w : IntKind.i64.wrap (-t667) = -t667 := IntWalk.i64_in _ (by omega)
 refine hK.out _ _ ?_ (fun hHeld2 => ?_)
 focus ((try dsimp only); (exact ⟨H666.out.cell 3 rfl 0 rfl, H666.out.cell 3 rfl 1 rfl⟩))
 clear hK K
 try simp only [Act.put, p1, p2, p3, p4, p5, p6]
 clear hHeld
 have hHeld := hHeld2
 clear hHeld2
 refine tkA 2 ?_
 try simp only [Act.put, p1, p2, p3, p4, p5, p6]
 refine wpAnyH_ready (rs := [4]) (by kernel_rfl) (by simp) (AllReadyH.cons (o := _) rfl (fun K hK => ?_) AllReadyH.nil)
 go_simp
 go_at_call 86
 refine (pmag_any _ _ _ hxl hxh).mono ?_
 rintro e w668 ⟨rfl, hb⟩
 have H669 := hid (H666.out.call hb)
 clear hb
 rw [HNt667.out]
 refine hK.out _ _ ?_ (fun hHeld2 => ?_)
 focus ((try dsimp only); (exact ⟨H669.out.cell 3 rfl 0 rfl, H669.out.cell 3 rfl 1 rfl⟩))
 clear hK K
 try simp only [Act.put, p1, p2, p3, p4, p5, p6]
 clear hHeld
 have hHeld := hHeld2
 clear hHeld2
 refine tkA 5 ?_
 try simp only [Act.put, p1, p2, p3, p4, p5, p6]
 refine wpAnyH_ready (rs := [6]) (by kernel_rfl) (by simp) (AllReadyH.cons (o := _) rfl (fun K hK => ?_) AllReadyH.nil)
 have z670 := H669.out.cell 0 rfl 0 rfl
 have z671 := H669.out.free 0 rfl 0
 have z672 := H669.out.cell 0 rfl 1 rfl
 have z673 := H669.out.free 0 rfl 1
 have H674 := hid (show St _ _ (.cells D658 #[.int .i64 (-t667), .int .i64 t667] 94 :: _) _ _ from ((H669.out.set 0 rfl 0 (.int .i64 (-t667))).set 0 rfl 1 (.int .i64 t667)))
 go_simp
 refine hK.out _ _ ?_ (fun hHeld2 => ?_)
 focus ((try dsimp only); (exact ⟨H674.out.cell 3 rfl 0 rfl, H674.out.cell 3 rfl 1 rfl⟩))
 clear hK K hHeld
 try simp only [Act.put, p1, p2, p3, p4, p5, p6]
 clear z670 z671 z672 z673
 generalize ((w668.setCell ⟨D658, 0, none⟩ (.int .i64 (-t667))).setCell ⟨D658, 1, none⟩ (.int .i64 t667)) = k675 at *
 have hHeld := hHeld2
 clear hHeld2
 refine wpAnyH_done (by kernel_rfl) ?_ _
 try clear hHeld
 go_upto_region 22 with fail
 have H676 := hid H674.out.drew
 refine wp_region_held_drew (S := (fun w' => w'.cell? ⟨D658, 0, none⟩ = some (.int .i64 (-t667)) ∧ w'.cell? ⟨D658, 1, none⟩ = some (.int .i64 t667))) (by kernel_rfl) ⟨H676.out.cell 0 rfl 0 rfl, H676.out.cell 0 rfl 1 rfl⟩ (fun hHeld => ?_)
 generalize k675.drew = k677 at *
 refine tkA 0 ?_
 try simp only [Act.put, p1, p2, p3, p4, p5, p6]
 refine tkA 1 ?_
 try simp only [Act.put, p1, p2, p3, p4, p5, p6]
 refine tkA 2 ?_
 try simp only [Act.put, p1, p2, p3, p4, p5, p6]
 refine tkA 3 ?_
 try simp only [Act.put, p1, p2, p3, p4, p5, p6]
 refine tkA 4 ?_
 try simp only [Act.put, p1, p2, p3, p4, p5, p6]
 refine wpAnyH_ready (rs := [5]) (by kernel_rfl) (by simp) (AllReadyH.cons (o := _) rfl (fun K hK => ?_) AllReadyH.nil)
 go_simp
 go_at_call 87
 refine (pwithin_any _ _).mono ?_
 rintro e w678 ⟨rfl, hsw⟩
 have hsw2 : k677 = w678 := by first | exact hsw | exact hsw.symm
 clear hsw
 subst hsw2
 obtain ⟨b679, hb679⟩ : ∃ xx', accOk (-t667) = xx' := ⟨_, rfl⟩
 rw [hb679]
 have HNb679 := hid hb679
 clear hb679
 refine hK.out _ _ ?_ (fun hHeld2 => ?_)
 focus ((try dsimp only); (exact ⟨H676.out.cell 0 rfl 0 rfl, H676.out.cell 0 rfl 1 rfl⟩))
 clear hK K
 try simp only [Act.put, p1, p2, p3, p4, p5, p6]
 clear hHeld
 have hHeld := hHeld2
 clear hHeld2
 cases b679
 ·
  skip
  refine tkA 6 ?_
  try simp only [Act.put, p1, p2, p3, p4, p5, p6]
  refine tkA 7 ?_
  try simp only [Act.put, p1, p2, p3, p4, p5, p6]
  refine tkU 8 ?_
  try simp only [Act.put, p1, p2, p3, p4, p5, p6]
  refine tkU 9 ?_
  try simp only [Act.put, p1, p2, p3, p4, p5, p6]
  refine tkU 10 ?_
  try simp only [Act.put, p1, p2, p3, p4, p5, p6]
  refine tkA 11 ?_
  try simp only [Act.put, p1, p2, p3, p4, p5, p6]
  refine wpAnyH_ready (rs := [12]) (by kernel_rfl) (by simp) (AllReadyH.cons (o := _) rfl (fun K hK => ?_) AllReadyH.nil)
  have z680 := H676.out.cell 1 rfl 0 rfl
  have z681 := H676.out.free 1 rfl 0
  have z682 := H676.out.cell 1 rfl 1 rfl
  have z683 := H676.out.free 1 rfl 1
  have H684 := hid (show St _ _ (_ :: .cells (B + 1 + 1 + 1) #[.int .i64 (-t667), .int .i64 t667] 94 :: _) _ _ from ((H676.out.set 1 rfl 0 (.int .i64 (-t667))).set 1 rfl 1 (.int .i64 t667)))
  go_simp
  refine hK.out _ _ ?_ (fun hHeld2 => ?_)
  focus ((try dsimp only); (exact ⟨H684.out.cell 0 rfl 0 rfl, H684.out.cell 0 rfl 1 rfl⟩))
  clear hK K hHeld
  try simp only [Act.put, p1, p2, p3, p4, p5, p6]
  clear z680 z681 z682 z683
  generalize ((k677.setCell ⟨B + 1 + 1 + 1, 0, none⟩ (.int .i64 (-t667))).setCell ⟨B + 1 + 1 + 1, 1, none⟩ (.int .i64 t667)) = k685 at *
  have hHeld := hHeld2
  clear hHeld2
  refine tkA 13 ?_
  try simp only [Act.put, p1, p2, p3, p4, p5, p6]
  refine wpAnyH_done (by kernel_rfl) ?_ _
  try clear hHeld
  have z686 := H684.out.cell 1 rfl 0 rfl
  have z687 := H684.out.cell 1 rfl 1 rfl
  go_wp2_with fail
  clear z686 z687
  have hpk := hid (show pwIok 9 g (xl, xh) (yl, yh) 0 0 = false from by unfold pwIok; rw [(show (pwInt 9 g (xl, xh) (yl, yh) 0 0).1 = -t667 from by rw [← HNt667.out]; rfl), (show (pwInt 9 g (xl, xh) (yl, yh) 0 0).2 = t667 from by rw [← HNt667.out]; rfl), HNb679.out]; rfl)
  have q688 := H684.out.cell 1 rfl 0 rfl
  have q689 := H684.out.cell 1 rfl 1 rfl
  refine bodyPost_ret (v := .tuple #[.agg #[.int .i64 (-t667), .int .i64 t667], .bool false]) ?_ rfl ⟨⟨_, _, by rw [hpk.out], fun _ => ⟨(show (pwInt 9 g (xl, xh) (yl, yh) 0 0).1 = -t667 from by rw [← HNt667.out]; rfl).symm, (show (pwInt 9 g (xl, xh) (yl, yh) 0 0).2 = t667 from by rw [← HNt667.out]; rfl).symm⟩⟩, by first | exact H684.out.below | exact H684.out.below'⟩
  simp [results, Try.results76, go_sem, q688, q689]
 ·
  skip
  refine tkA 6 ?_
  try simp only [Act.put, p1, p2, p3, p4, p5, p6]
  refine tkA 7 ?_
  try simp only [Act.put, p1, p2, p3, p4, p5, p6]
  refine tkA 8 ?_
  try simp only [Act.put, p1, p2, p3, p4, p5, p6]
  refine tkA 9 ?_
  try simp only [Act.put, p1, p2, p3, p4, p5, p6]
  refine wpAnyH_ready (rs := [10]) (by kernel_rfl) (by simp) (AllReadyH.cons (o := _) rfl (fun K hK => ?_) AllReadyH.nil)
  go_simp
  go_at_call 87
  refine (pwithin_any _ _).mono ?_
  rintro e w690 ⟨rfl, hsw⟩
  have hsw2 : k677 = w690 := by first | exact hsw | exact hsw.symm
  clear hsw
  subst hsw2
  obtain ⟨b691, hb691⟩ : ∃ xx', accOk t667 = xx' := ⟨_, rfl⟩
  rw [hb691]
  have HNb691 := hid hb691
  clear hb691
  refine hK.out _ _ ?_ (fun hHeld2 => ?_)
  focus ((try dsimp only); (exact ⟨H676.out.cell 0 rfl 0 rfl, H676.out.cell 0 rfl 1 rfl⟩))
  clear hK K
  try simp only [Act.put, p1, p2, p3, p4, p5, p6]
  clear hHeld
  have hHeld := hHeld2
  clear hHeld2
  refine tkA 11 ?_
  try simp only [Act.put, p1, p2, p3, p4, p5, p6]
  refine wpAnyH_ready (rs := [12]) (by kernel_rfl) (by simp) (AllReadyH.cons (o := _) rfl (fun K hK => ?_) AllReadyH.nil)
  have z692 := H676.out.cell 1 rfl 0 rfl
  have z693 := H676.out.free 1 rfl 0
  have z694 := H676.out.cell 1 rfl 1 rfl
  have z695 := H676.out.free 1 rfl 1
  have H696 := hid (show St _ _ (_ :: .cells (B + 1 + 1 + 1) #[.int .i64 (-t667), .int .i64 t667] 94 :: _) _ _ from ((H676.out.set 1 rfl 0 (.int .i64 (-t667))).set 1 rfl 1 (.int .i64 t667)))
  go_simp
  refine hK.out _ _ ?_ (fun hHeld2 => ?_)
  focus ((try dsimp only); (exact ⟨H696.out.cell 0 rfl 0 rfl, H696.out.cell 0 rfl 1 rfl⟩))
  clear hK K hHeld
  try simp only [Act.put, p1, p2, p3, p4, p5, p6]
  clear z692 z693 z694 z695
  generalize ((k677.setCell ⟨B + 1 + 1 + 1, 0, none⟩ (.int .i64 (-t667))).setCell ⟨B + 1 + 1 + 1, 1, none⟩ (.int .i64 t667)) = k697 at *
  have hHeld := hHeld2
  clear hHeld2
  refine tkA 13 ?_
  try simp only [Act.put, p1, p2, p3, p4, p5, p6]
  refine wpAnyH_done (by kernel_rfl) ?_ _
  try clear hHeld
  have z698 := H696.out.cell 1 rfl 0 rfl
  have z699 := H696.out.cell 1 rfl 1 rfl
  go_wp2_with fail
  clear z698 z699
  have hpk := hid (show pwIok 9 g (xl, xh) (yl, yh) 0 0 = b691 from by unfold pwIok; rw [(show (pwInt 9 g (xl, xh) (yl, yh) 0 0).1 = -t667 from by rw [← HNt667.out]; rfl), (show (pwInt 9 g (xl, xh) (yl, yh) 0 0).2 = t667 from by rw [← HNt667.out]; rfl), HNb679.out, HNb691.out]; rfl)
  have q700 := H696.out.cell 1 rfl 0 rfl
  have q701 := H696.out.cell 1 rfl 1 rfl
  refine bodyPost_ret (v := .tuple #[.agg #[.int .i64 (-t667), .int .i64 t667], .bool b691]) ?_ rfl ⟨⟨_, _, by rw [hpk.out], fun _ => ⟨(show (pwInt 9 g (xl, xh) (yl, yh) 0 0).1 = -t667 from by rw [← HNt667.out]; rfl).symm, (show (pwInt 9 g (xl, xh) (yl, yh) 0 0).2 = t667 from by rw [← HNt667.out]; rfl).symm⟩⟩, by first | exact H696.out.below | exact H696.out.below'⟩
  simp [results, Try.results76, go_sem, q700, q701]

set_option maxRecDepth 100000 in
set_option maxHeartbeats 3200000 in
theorem papply_any_10 (g xl xh yl yh : Int) (W : World) (hxl : accOk xl = true) (hxh : accOk xh = true) (hyl : accOk yl = true) (hyh : accOk yh = true) : Calls Try.prog 76 #[.agg #[.int .i64 10, .int .i64 g], .agg #[.int .i64 xl, .int .i64 xh], .agg #[.int .i64 yl, .int .i64 yh]] W fun e w' => (∃ lo hi, e = .returned (.tuple #[.agg #[.int .i64 lo, .int .i64 hi], .bool (pwIok 10 g (xl, xh) (yl, yh) 0 0)]) ∧ (pwIok 10 g (xl, xh) (yl, yh) 0 0 = true → lo = (pwInt 10 g (xl, xh) (yl, yh) 0 0).1 ∧ hi = (pwInt 10 g (xl, xh) (yl, yh) 0 0).2)) ∧ Below W.heap.size W w' := by
 obtain ⟨xl1, xl2⟩ := accOk_iff.1 hxl
 obtain ⟨xh1, xh2⟩ := accOk_iff.1 hxh
 obtain ⟨yl1, yl2⟩ := accOk_iff.1 hyl
 obtain ⟨yh1, yh2⟩ := accOk_iff.1 hyh
 obtain ⟨B, hB⟩ : ∃ B, W.heap.size = B := ⟨_, rfl⟩
 have HI0 := hid (St.init hB)
 go_enter Try.func76, Try.ntmps76
 go_upto_region 1 with fail
 have H702 := hid (show St _ _ (.cells (B + 1 + 1 + 1) _ _ :: .cells (B + 1 + 1) _ _ :: .cells (B + 1) _ _ :: .cells B _ _ :: _) _ _ from ((((HI0.out.alloc #[.int .i64 10, .int .i64 g] 57 hB).alloc #[.int .i64 xl, .int .i64 xh] 94 (by first | exact hB | simp [hB])).alloc #[.int .i64 yl, .int .i64 yh] 94 (by first | exact hB | simp [hB])).alloc #[.int .i64 0, .int .i64 0] 94 (by first | exact hB | simp [hB])))
 first | refine gen_code H702.out ?_ | refine gen_list H702.out ?_ | refine gen_calls H702.out ?_
 intro w703 hG
 clear H702
 have H702 := hid hG
 clear hG
 obtain ⟨D704, hD704⟩ : ∃ D, w703.heap.size = D := ⟨_, rfl⟩
 go_upto_region 2 with fail
 have H705 := hid (H702.out.alloc #[.int .i64 0, .int .i64 0] 94 hD704)
 first | refine gen_code H705.out ?_ | refine gen_list H705.out ?_ | refine gen_calls H705.out ?_
 intro w706 hG
 clear H705
 have H705 := hid hG
 clear hG
 clear hD704
 have z707 := H705.out.cell 4 rfl 0 rfl
 have z708 := H705.out.cell 4 rfl 1 rfl
 have z709 := H705.out.cell 3 rfl 0 rfl
 have z710 := H705.out.cell 3 rfl 1 rfl
 go_wp2_with fail
 clear z707 z708 z709 z710
 refine (fspan_any _ _ _ _).mono ?_
 rintro e w711 ⟨rfl, hsw⟩
 have hsw2 : w706 = w711 := by first | exact hsw | exact hsw.symm
 clear hsw
 subst hsw2
 obtain ⟨t712, ht712⟩ : ∃ xx', shV xl g = xx' := ⟨_, rfl⟩
 rw [ht712]
 have HNt712 := hid ht712
 clear ht712
 obtain ⟨t713, ht713⟩ : ∃ xx', shV xh g = xx' := ⟨_, rfl⟩
 rw [ht713]
 have HNt713 := hid ht713
 clear ht713
 have z714 := H705.out.cell 0 rfl 0 rfl
 have z715 := H705.out.free 0 rfl 0
 have z716 := H705.out.cell 0 rfl 1 rfl
 have z717 := H705.out.free 0 rfl 1
 go_upto_region 22 with fail
 clear z714 z715 z716 z717
 have H718 := hid (show St _ _ (.cells D704 #[.int .i64 t712, .int .i64 t713] 94 :: _) _ _ from ((H705.out.set 0 rfl 0 (.int .i64 t712)).set 0 rfl 1 (.int .i64 t713)))
 first | refine gen_code H718.out ?_ | refine gen_list H718.out ?_ | refine gen_calls H718.out ?_
 intro w719 hG
 clear H718
 have H718 := hid hG
 clear hG
 have H720 := hid H718.out.drew
 refine wp_region_held_drew (S := (fun w' => w'.cell? ⟨D704, 0, none⟩ = some (.int .i64 t712) ∧ w'.cell? ⟨D704, 1, none⟩ = some (.int .i64 t713))) (by kernel_rfl) ⟨H720.out.cell 0 rfl 0 rfl, H720.out.cell 0 rfl 1 rfl⟩ (fun hHeld => ?_)
 generalize w719.drew = k721 at *
 refine tkA 0 ?_
 try simp only [Act.put, p1, p2, p3, p4, p5, p6]
 refine tkA 1 ?_
 try simp only [Act.put, p1, p2, p3, p4, p5, p6]
 refine tkA 2 ?_
 try simp only [Act.put, p1, p2, p3, p4, p5, p6]
 refine tkA 3 ?_
 try simp only [Act.put, p1, p2, p3, p4, p5, p6]
 refine tkA 4 ?_
 try simp only [Act.put, p1, p2, p3, p4, p5, p6]
 refine wpAnyH_ready (rs := [5]) (by kernel_rfl) (by simp) (AllReadyH.cons (o := _) rfl (fun K hK => ?_) AllReadyH.nil)
 go_simp
 go_at_call 87
 refine (pwithin_any _ _).mono ?_
 rintro e w722 ⟨rfl, hsw⟩
 have hsw2 : k721 = w722 := by first | exact hsw | exact hsw.symm
 clear hsw
 subst hsw2
 obtain ⟨b723, hb723⟩ : ∃ xx', accOk t712 = xx' := ⟨_, rfl⟩
 rw [hb723]
 have HNb723 := hid hb723
 clear hb723
 refine hK.out _ _ ?_ (fun hHeld2 => ?_)
 focus ((try dsimp only); (exact ⟨H720.out.cell 0 rfl 0 rfl, H720.out.cell 0 rfl 1 rfl⟩))
 clear hK K
 try simp only [Act.put, p1, p2, p3, p4, p5, p6]
 clear hHeld
 have hHeld := hHeld2
 clear hHeld2
 cases b723
 ·
  skip
  refine tkA 6 ?_
  try simp only [Act.put, p1, p2, p3, p4, p5, p6]
  refine tkA 7 ?_
  try simp only [Act.put, p1, p2, p3, p4, p5, p6]
  refine tkU 8 ?_
  try simp only [Act.put, p1, p2, p3, p4, p5, p6]
  refine tkU 9 ?_
  try simp only [Act.put, p1, p2, p3, p4, p5, p6]
  refine tkU 10 ?_
  try simp only [Act.put, p1, p2, p3, p4, p5, p6]
  refine tkA 11 ?_
  try simp only [Act.put, p1, p2, p3, p4, p5, p6]
  refine wpAnyH_ready (rs := [12]) (by kernel_rfl) (by simp) (AllReadyH.cons (o := _) rfl (fun K hK => ?_) AllReadyH.nil)
  have z724 := H720.out.cell 1 rfl 0 rfl
  have z725 := H720.out.free 1 rfl 0
  have z726 := H720.out.cell 1 rfl 1 rfl
  have z727 := H720.out.free 1 rfl 1
  have H728 := hid (show St _ _ (_ :: .cells (B + 1 + 1 + 1) #[.int .i64 t712, .int .i64 t713] 94 :: _) _ _ from ((H720.out.set 1 rfl 0 (.int .i64 t712)).set 1 rfl 1 (.int .i64 t713)))
  go_simp
  refine hK.out _ _ ?_ (fun hHeld2 => ?_)
  focus ((try dsimp only); (exact ⟨H728.out.cell 0 rfl 0 rfl, H728.out.cell 0 rfl 1 rfl⟩))
  clear hK K hHeld
  try simp only [Act.put, p1, p2, p3, p4, p5, p6]
  clear z724 z725 z726 z727
  generalize ((k721.setCell ⟨B + 1 + 1 + 1, 0, none⟩ (.int .i64 t712)).setCell ⟨B + 1 + 1 + 1, 1, none⟩ (.int .i64 t713)) = k729 at *
  have hHeld := hHeld2
  clear hHeld2
  refine tkA 13 ?_
  try simp only [Act.put, p1, p2, p3, p4, p5, p6]
  refine wpAnyH_done (by kernel_rfl) ?_ _
  try clear hHeld
  have z730 := H728.out.cell 1 rfl 0 rfl
  have z731 := H728.out.cell 1 rfl 1 rfl
  go_wp2_with fail
  clear z730 z731
  have hpk := hid (show pwIok 10 g (xl, xh) (yl, yh) 0 0 = false from by unfold pwIok; rw [(show (pwInt 10 g (xl, xh) (yl, yh) 0 0).1 = t712 from by rw [← HNt712.out]; rfl), (show (pwInt 10 g (xl, xh) (yl, yh) 0 0).2 = t713 from by rw [← HNt713.out]; rfl), HNb723.out]; rfl)
  have q732 := H728.out.cell 1 rfl 0 rfl
  have q733 := H728.out.cell 1 rfl 1 rfl
  refine bodyPost_ret (v := .tuple #[.agg #[.int .i64 t712, .int .i64 t713], .bool false]) ?_ rfl ⟨⟨_, _, by rw [hpk.out], fun _ => ⟨(show (pwInt 10 g (xl, xh) (yl, yh) 0 0).1 = t712 from by rw [← HNt712.out]; rfl).symm, (show (pwInt 10 g (xl, xh) (yl, yh) 0 0).2 = t713 from by rw [← HNt713.out]; rfl).symm⟩⟩, by first | exact H728.out.below | exact H728.out.below'⟩
  simp [results, Try.results76, go_sem, q732, q733]
 ·
  skip
  refine tkA 6 ?_
  try simp only [Act.put, p1, p2, p3, p4, p5, p6]
  refine tkA 7 ?_
  try simp only [Act.put, p1, p2, p3, p4, p5, p6]
  refine tkA 8 ?_
  try simp only [Act.put, p1, p2, p3, p4, p5, p6]
  refine tkA 9 ?_
  try simp only [Act.put, p1, p2, p3, p4, p5, p6]
  refine wpAnyH_ready (rs := [10]) (by kernel_rfl) (by simp) (AllReadyH.cons (o := _) rfl (fun K hK => ?_) AllReadyH.nil)
  go_simp
  go_at_call 87
  refine (pwithin_any _ _).mono ?_
  rintro e w734 ⟨rfl, hsw⟩
  have hsw2 : k721 = w734 := by first | exact hsw | exact hsw.symm
  clear hsw
  subst hsw2
  obtain ⟨b735, hb735⟩ : ∃ xx', accOk t713 = xx' := ⟨_, rfl⟩
  rw [hb735]
  have HNb735 := hid hb735
  clear hb735
  refine hK.out _ _ ?_ (fun hHeld2 => ?_)
  focus ((try dsimp only); (exact ⟨H720.out.cell 0 rfl 0 rfl, H720.out.cell 0 rfl 1 rfl⟩))
  clear hK K
  try simp only [Act.put, p1, p2, p3, p4, p5, p6]
  clear hHeld
  have hHeld := hHeld2
  clear hHeld2
  refine tkA 11 ?_
  try simp only [Act.put, p1, p2, p3, p4, p5, p6]
  refine wpAnyH_ready (rs := [12]) (by kernel_rfl) (by simp) (AllReadyH.cons (o := _) rfl (fun K hK => ?_) AllReadyH.nil)
  have z736 := H720.out.cell 1 rfl 0 rfl
  have z737 := H720.out.free 1 rfl 0
  have z738 := H720.out.cell 1 rfl 1 rfl
  have z739 := H720.out.free 1 rfl 1
  have H740 := hid (show St _ _ (_ :: .cells (B + 1 + 1 + 1) #[.int .i64 t712, .int .i64 t713] 94 :: _) _ _ from ((H720.out.set 1 rfl 0 (.int .i64 t712)).set 1 rfl 1 (.int .i64 t713)))
  go_simp
  refine hK.out _ _ ?_ (fun hHeld2 => ?_)
  focus ((try dsimp only); (exact ⟨H740.out.cell 0 rfl 0 rfl, H740.out.cell 0 rfl 1 rfl⟩))
  clear hK K hHeld
  try simp only [Act.put, p1, p2, p3, p4, p5, p6]
  clear z736 z737 z738 z739
  generalize ((k721.setCell ⟨B + 1 + 1 + 1, 0, none⟩ (.int .i64 t712)).setCell ⟨B + 1 + 1 + 1, 1, none⟩ (.int .i64 t713)) = k741 at *
  have hHeld := hHeld2
  clear hHeld2
  refine tkA 13 ?_
  try simp only [Act.put, p1, p2, p3, p4, p5, p6]
  refine wpAnyH_done (by kernel_rfl) ?_ _
  try clear hHeld
  have z742 := H740.out.cell 1 rfl 0 rfl
  have z743 := H740.out.cell 1 rfl 1 rfl
  go_wp2_with fail
  clear z742 z743
  have hpk := hid (show pwIok 10 g (xl, xh) (yl, yh) 0 0 = b735 from by unfold pwIok; rw [(show (pwInt 10 g (xl, xh) (yl, yh) 0 0).1 = t712 from by rw [← HNt712.out]; rfl), (show (pwInt 10 g (xl, xh) (yl, yh) 0 0).2 = t713 from by rw [← HNt713.out]; rfl), HNb723.out, HNb735.out]; rfl)
  have q744 := H740.out.cell 1 rfl 0 rfl
  have q745 := H740.out.cell 1 rfl 1 rfl
  refine bodyPost_ret (v := .tuple #[.agg #[.int .i64 t712, .int .i64 t713], .bool b735]) ?_ rfl ⟨⟨_, _, by rw [hpk.out], fun _ => ⟨(show (pwInt 10 g (xl, xh) (yl, yh) 0 0).1 = t712 from by rw [← HNt712.out]; rfl).symm, (show (pwInt 10 g (xl, xh) (yl, yh) 0 0).2 = t713 from by rw [← HNt713.out]; rfl).symm⟩⟩, by first | exact H740.out.below | exact H740.out.below'⟩
  simp [results, Try.results76, go_sem, q744, q745]

set_option maxRecDepth 100000 in
set_option maxHeartbeats 3200000 in
theorem papply_any_11 (g xl xh yl yh : Int) (W : World) (hxl : accOk xl = true) (hxh : accOk xh = true) (hyl : accOk yl = true) (hyh : accOk yh = true) : Calls Try.prog 76 #[.agg #[.int .i64 11, .int .i64 g], .agg #[.int .i64 xl, .int .i64 xh], .agg #[.int .i64 yl, .int .i64 yh]] W fun e w' => (∃ lo hi, e = .returned (.tuple #[.agg #[.int .i64 lo, .int .i64 hi], .bool (pwIok 11 g (xl, xh) (yl, yh) 0 0)]) ∧ (pwIok 11 g (xl, xh) (yl, yh) 0 0 = true → lo = (pwInt 11 g (xl, xh) (yl, yh) 0 0).1 ∧ hi = (pwInt 11 g (xl, xh) (yl, yh) 0 0).2)) ∧ Below W.heap.size W w' := by
 obtain ⟨xl1, xl2⟩ := accOk_iff.1 hxl
 obtain ⟨xh1, xh2⟩ := accOk_iff.1 hxh
 obtain ⟨yl1, yl2⟩ := accOk_iff.1 hyl
 obtain ⟨yh1, yh2⟩ := accOk_iff.1 hyh
 obtain ⟨B, hB⟩ : ∃ B, W.heap.size = B := ⟨_, rfl⟩
 have HI0 := hid (St.init hB)
 go_enter Try.func76, Try.ntmps76
 go_upto_region 1 with fail
 have H746 := hid (show St _ _ (.cells (B + 1 + 1 + 1) _ _ :: .cells (B + 1 + 1) _ _ :: .cells (B + 1) _ _ :: .cells B _ _ :: _) _ _ from ((((HI0.out.alloc #[.int .i64 11, .int .i64 g] 57 hB).alloc #[.int .i64 xl, .int .i64 xh] 94 (by first | exact hB | simp [hB])).alloc #[.int .i64 yl, .int .i64 yh] 94 (by first | exact hB | simp [hB])).alloc #[.int .i64 0, .int .i64 0] 94 (by first | exact hB | simp [hB])))
 first | refine gen_code H746.out ?_ | refine gen_list H746.out ?_ | refine gen_calls H746.out ?_
 intro w747 hG
 clear H746
 have H746 := hid hG
 clear hG
 obtain ⟨D748, hD748⟩ : ∃ D, w747.heap.size = D := ⟨_, rfl⟩
 go_upto_region 2 with fail
 have H749 := hid (H746.out.alloc #[.int .i64 0, .int .i64 0] 94 hD748)
 first | refine gen_code H749.out ?_ | refine gen_list H749.out ?_ | refine gen_calls H749.out ?_
 intro w750 hG
 clear H749
 have H749 := hid hG
 clear hG
 clear hD748
 have z751 := H749.out.cell 4 rfl 0 rfl
 have z752 := H749.out.cell 4 rfl 1 rfl
 have z753 := H749.out.cell 3 rfl 0 rfl
 have z754 := H749.out.cell 3 rfl 1 rfl
 go_wp2_with fail
 clear z751 z752 z753 z754
 refine (pmag_any _ _ _ hxl hxh).mono ?_
 rintro e w755 ⟨rfl, hb⟩
 have H756 := hid (H749.out.call hb)
 clear hb
 obtain ⟨t757, ht757⟩ : ∃ xx', mxI (absI xl) (absI xh) = xx' := ⟨_, rfl⟩
 rw [ht757]
 have HNt757 := hid ht757
 clear ht757
 obtain ⟨t757a, t757b⟩ : 0 ≤ t757 ∧ t757 ≤ 17592186044416 := by rw [← HNt757.out]; exact mag_bd hxl hxh
 have t757w : IntKind.i64.wrap (-t757) = -t757 := IntWalk.i64_in _ (by omega)
 have z758 := H756.out.cell 0 rfl 0 rfl
 have z759 := H756.out.free 0 rfl 0
 have z760 := H756.out.cell 0 rfl 1 rfl
 have z761 := H756.out.free 0 rfl 1
 go_upto_region 22 with fail
 clear z758 z759 z760 z761
 have H762 := hid (show St _ _ (.cells D748 #[.int .i64 0, .int .i64 t757] 94 :: _) _ _ from ((H756.out.set 0 rfl 0 (.int .i64 0)).set 0 rfl 1 (.int .i64 t757)))
 first | refine gen_code H762.out ?_ | refine gen_list H762.out ?_ | refine gen_calls H762.out ?_
 intro w763 hG
 clear H762
 have H762 := hid hG
 clear hG
 have H764 := hid H762.out.drew
 refine wp_region_held_drew (S := (fun w' => w'.cell? ⟨D748, 0, none⟩ = some (.int .i64 0) ∧ w'.cell? ⟨D748, 1, none⟩ = some (.int .i64 t757))) (by kernel_rfl) ⟨H764.out.cell 0 rfl 0 rfl, H764.out.cell 0 rfl 1 rfl⟩ (fun hHeld => ?_)
 generalize w763.drew = k765 at *
 refine tkA 0 ?_
 try simp only [Act.put, p1, p2, p3, p4, p5, p6]
 refine tkA 1 ?_
 try simp only [Act.put, p1, p2, p3, p4, p5, p6]
 refine tkA 2 ?_
 try simp only [Act.put, p1, p2, p3, p4, p5, p6]
 refine tkA 3 ?_
 try simp only [Act.put, p1, p2, p3, p4, p5, p6]
 refine tkA 4 ?_
 try simp only [Act.put, p1, p2, p3, p4, p5, p6]
 refine wpAnyH_ready (rs := [5]) (by kernel_rfl) (by simp) (AllReadyH.cons (o := _) rfl (fun K hK => ?_) AllReadyH.nil)
 go_simp
 go_at_call 87
 refine (pwithin_any _ _).mono ?_
 rintro e w766 ⟨rfl, hsw⟩
 have hsw2 : k765 = w766 := by first | exact hsw | exact hsw.symm
 clear hsw
 subst hsw2
 obtain ⟨b767, hb767⟩ : ∃ xx', accOk 0 = xx' := ⟨_, rfl⟩
 rw [hb767]
 have HNb767 := hid hb767
 clear hb767
 refine hK.out _ _ ?_ (fun hHeld2 => ?_)
 focus ((try dsimp only); (exact ⟨H764.out.cell 0 rfl 0 rfl, H764.out.cell 0 rfl 1 rfl⟩))
 clear hK K
 try simp only [Act.put, p1, p2, p3, p4, p5, p6]
 clear hHeld
 have hHeld := hHeld2
 clear hHeld2
 cases b767
 ·
  skip
  refine tkA 6 ?_
  try simp only [Act.put, p1, p2, p3, p4, p5, p6]
  refine tkA 7 ?_
  try simp only [Act.put, p1, p2, p3, p4, p5, p6]
  refine tkU 8 ?_
  try simp only [Act.put, p1, p2, p3, p4, p5, p6]
  refine tkU 9 ?_
  try simp only [Act.put, p1, p2, p3, p4, p5, p6]
  refine tkU 10 ?_
  try simp only [Act.put, p1, p2, p3, p4, p5, p6]
  refine tkA 11 ?_
  try simp only [Act.put, p1, p2, p3, p4, p5, p6]
  refine wpAnyH_ready (rs := [12]) (by kernel_rfl) (by simp) (AllReadyH.cons (o := _) rfl (fun K hK => ?_) AllReadyH.nil)
  have z768 := H764.out.cell 1 rfl 0 rfl
  have z769 := H764.out.free 1 rfl 0
  have z770 := H764.out.cell 1 rfl 1 rfl
  have z771 := H764.out.free 1 rfl 1
  have H772 := hid (show St _ _ (_ :: .cells (B + 1 + 1 + 1) #[.int .i64 0, .int .i64 t757] 94 :: _) _ _ from ((H764.out.set 1 rfl 0 (.int .i64 0)).set 1 rfl 1 (.int .i64 t757)))
  go_simp
  refine hK.out _ _ ?_ (fun hHeld2 => ?_)
  focus ((try dsimp only); (exact ⟨H772.out.cell 0 rfl 0 rfl, H772.out.cell 0 rfl 1 rfl⟩))
  clear hK K hHeld
  try simp only [Act.put, p1, p2, p3, p4, p5, p6]
  clear z768 z769 z770 z771
  generalize ((k765.setCell ⟨B + 1 + 1 + 1, 0, none⟩ (.int .i64 0)).setCell ⟨B + 1 + 1 + 1, 1, none⟩ (.int .i64 t757)) = k773 at *
  have hHeld := hHeld2
  clear hHeld2
  refine tkA 13 ?_
  try simp only [Act.put, p1, p2, p3, p4, p5, p6]
  refine wpAnyH_done (by kernel_rfl) ?_ _
  try clear hHeld
  have z774 := H772.out.cell 1 rfl 0 rfl
  have z775 := H772.out.cell 1 rfl 1 rfl
  go_wp2_with fail
  clear z774 z775
  have hpk := hid (show pwIok 11 g (xl, xh) (yl, yh) 0 0 = false from by unfold pwIok; rw [(show (pwInt 11 g (xl, xh) (yl, yh) 0 0).1 = 0 from rfl), (show (pwInt 11 g (xl, xh) (yl, yh) 0 0).2 = t757 from by rw [← HNt757.out]; rfl), HNb767.out]; rfl)
  have q776 := H772.out.cell 1 rfl 0 rfl
  have q777 := H772.out.cell 1 rfl 1 rfl
  refine bodyPost_ret (v := .tuple #[.agg #[.int .i64 0, .int .i64 t757], .bool false]) ?_ rfl ⟨⟨_, _, by rw [hpk.out], fun _ => ⟨(show (pwInt 11 g (xl, xh) (yl, yh) 0 0).1 = 0 from rfl).symm, (show (pwInt 11 g (xl, xh) (yl, yh) 0 0).2 = t757 from by rw [← HNt757.out]; rfl).symm⟩⟩, by first | exact H772.out.below | exact H772.out.below'⟩
  simp [results, Try.results76, go_sem, q776, q777]
 ·
  skip
  refine tkA 6 ?_
  try simp only [Act.put, p1, p2, p3, p4, p5, p6]
  refine tkA 7 ?_
  try simp only [Act.put, p1, p2, p3, p4, p5, p6]
  refine tkA 8 ?_
  try simp only [Act.put, p1, p2, p3, p4, p5, p6]
  refine tkA 9 ?_
  try simp only [Act.put, p1, p2, p3, p4, p5, p6]
  refine wpAnyH_ready (rs := [10]) (by kernel_rfl) (by simp) (AllReadyH.cons (o := _) rfl (fun K hK => ?_) AllReadyH.nil)
  go_simp
  go_at_call 87
  refine (pwithin_any _ _).mono ?_
  rintro e w778 ⟨rfl, hsw⟩
  have hsw2 : k765 = w778 := by first | exact hsw | exact hsw.symm
  clear hsw
  subst hsw2
  obtain ⟨b779, hb779⟩ : ∃ xx', accOk t757 = xx' := ⟨_, rfl⟩
  rw [hb779]
  have HNb779 := hid hb779
  clear hb779
  refine hK.out _ _ ?_ (fun hHeld2 => ?_)
  focus ((try dsimp only); (exact ⟨H764.out.cell 0 rfl 0 rfl, H764.out.cell 0 rfl 1 rfl⟩))
  clear hK K
  try simp only [Act.put, p1, p2, p3, p4, p5, p6]
  clear hHeld
  have hHeld := hHeld2
  clear hHeld2
  refine tkA 11 ?_
  try simp only [Act.put, p1, p2, p3, p4, p5, p6]
  refine wpAnyH_ready (rs := [12]) (by kernel_rfl) (by simp) (AllReadyH.cons (o := _) rfl (fun K hK => ?_) AllReadyH.nil)
  have z780 := H764.out.cell 1 rfl 0 rfl
  have z781 := H764.out.free 1 rfl 0
  have z782 := H764.out.cell 1 rfl 1 rfl
  have z783 := H764.out.free 1 rfl 1
  have H784 := hid (show St _ _ (_ :: .cells (B + 1 + 1 + 1) #[.int .i64 0, .int .i64 t757] 94 :: _) _ _ from ((H764.out.set 1 rfl 0 (.int .i64 0)).set 1 rfl 1 (.int .i64 t757)))
  go_simp
  refine hK.out _ _ ?_ (fun hHeld2 => ?_)
  focus ((try dsimp only); (exact ⟨H784.out.cell 0 rfl 0 rfl, H784.out.cell 0 rfl 1 rfl⟩))
  clear hK K hHeld
  try simp only [Act.put, p1, p2, p3, p4, p5, p6]
  clear z780 z781 z782 z783
  generalize ((k765.setCell ⟨B + 1 + 1 + 1, 0, none⟩ (.int .i64 0)).setCell ⟨B + 1 + 1 + 1, 1, none⟩ (.int .i64 t757)) = k785 at *
  have hHeld := hHeld2
  clear hHeld2
  refine tkA 13 ?_
  try simp only [Act.put, p1, p2, p3, p4, p5, p6]
  refine wpAnyH_done (by kernel_rfl) ?_ _
  try clear hHeld
  have z786 := H784.out.cell 1 rfl 0 rfl
  have z787 := H784.out.cell 1 rfl 1 rfl
  go_wp2_with fail
  clear z786 z787
  have hpk := hid (show pwIok 11 g (xl, xh) (yl, yh) 0 0 = b779 from by unfold pwIok; rw [(show (pwInt 11 g (xl, xh) (yl, yh) 0 0).1 = 0 from rfl), (show (pwInt 11 g (xl, xh) (yl, yh) 0 0).2 = t757 from by rw [← HNt757.out]; rfl), HNb767.out, HNb779.out]; rfl)
  have q788 := H784.out.cell 1 rfl 0 rfl
  have q789 := H784.out.cell 1 rfl 1 rfl
  refine bodyPost_ret (v := .tuple #[.agg #[.int .i64 0, .int .i64 t757], .bool b779]) ?_ rfl ⟨⟨_, _, by rw [hpk.out], fun _ => ⟨(show (pwInt 11 g (xl, xh) (yl, yh) 0 0).1 = 0 from rfl).symm, (show (pwInt 11 g (xl, xh) (yl, yh) 0 0).2 = t757 from by rw [← HNt757.out]; rfl).symm⟩⟩, by first | exact H784.out.below | exact H784.out.below'⟩
  simp [results, Try.results76, go_sem, q788, q789]
theorem papply_any (c g xl xh yl yh : Int) (W : World) (hc : 3 ≤ c ∧ c ≤ 11) (hxl : accOk xl = true) (hxh : accOk xh = true) (hyl : accOk yl = true) (hyh : accOk yh = true) : Calls Try.prog 76 #[.agg #[.int .i64 c, .int .i64 g], .agg #[.int .i64 xl, .int .i64 xh], .agg #[.int .i64 yl, .int .i64 yh]] W fun e w' => (∃ lo hi, e = .returned (.tuple #[.agg #[.int .i64 lo, .int .i64 hi], .bool (pwIok c g (xl, xh) (yl, yh) 0 0)]) ∧ (pwIok c g (xl, xh) (yl, yh) 0 0 = true → lo = (pwInt c g (xl, xh) (yl, yh) 0 0).1 ∧ hi = (pwInt c g (xl, xh) (yl, yh) 0 0).2)) ∧ Below W.heap.size W w' := by
 rcases codes (c := c) (by omega) (by omega) with rfl | rfl | rfl | rfl | rfl | rfl | rfl | rfl | rfl | rfl | rfl | rfl
 ·
  omega
 ·
  omega
 ·
  omega
 ·
  exact papply_any_3 g xl xh yl yh W hxl hxh hyl hyh
 ·
  exact papply_any_4 g xl xh yl yh W hxl hxh hyl hyh
 ·
  exact papply_any_5 g xl xh yl yh W hxl hxh hyl hyh
 ·
  exact papply_any_6 g xl xh yl yh W hxl hxh hyl hyh
 ·
  exact papply_any_7 g xl xh yl yh W hxl hxh hyl hyh
 ·
  exact papply_any_8 g xl xh yl yh W hxl hxh hyl hyh
 ·
  exact papply_any_9 g xl xh yl yh W hxl hxh hyl hyh
 ·
  exact papply_any_10 g xl xh yl yh W hxl hxh hyl hyh
 ·
  exact papply_any_11 g xl xh yl yh W hxl hxh hyl hyh
end Go.Proofs.Yteejjnhlfgjlaaa
