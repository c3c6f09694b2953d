/-
 The walk of FootprintTiles: a tile is named exactly if it contains a needed column and a needed row.
-/
import Derived.Test.YtlidacfokgdlgaaSane16
import Derived.Test.YtlidacfokgdlgaaStTi
import Derived.Test.YtlidacfokgdlgaaStGr
import Derived.Test.YtlidacfokgdlgaaStage16
import Derived.Test.YtlidacfokgdlgaaKX
import Derived.Test.YtlidacfokgdlgaaKH
import Derived.Test.YtlidacfokgdlgaaKG
namespace Go.Proofs.Ytlidacfokgdlgaa
open Go.RowKit
attribute [local go_sem ↓] Go.wp_at_zero Go.wp_at_succ
set_option linter.unusedVariables false
set_option linter.unusedSimpArgs false

set_option maxRecDepth 100000 in
set_option maxHeartbeats 12800000 in
theorem walk_FootprintTiles (a : Option Addr) (n c : Nat) (zs : List Int) (ia : Int) (W : World) (hr : RowIn .i64 W a n c zs) (_ : I64 ia) :
  Calls Try.prog 5 #[.slice a n c, .int .i64 ia] W fun e w' => e = .returned (.bool true) ∧ Below W.heap.size W w' := by
 obtain ⟨B, hB⟩ : ∃ B, W.heap.size = B := ⟨_, rfl⟩
 have HI0 := hid (St.init hB)
 have HN := hid (nearRow hr hB)
 have HR := hid hr
 clear hr
 go_enter Try.func5, Try.ntmps5
 go_wp2_with fail
 obtain ⟨K1, hK1⟩ : ∃ D, W.heap.size = D := ⟨_, rfl⟩
 refine (newB_any B _ _ _ _ _ HR.out.len (HI0.out.oldRow HR.out.row) HN.out HI0.out.size).mono ?_
 rintro e w2 ⟨rfl, ht, hb, hs⟩
 rw [hK1] at ht ⊢
 have H3 := hid (HI0.out.newTape ht hb hK1)
 clear ht hb hs hK1
 go_wp2_with fail
 refine (nextB_any B K1 _ _ (by omega) (H3.out.tapeAt 0 rfl)).mono ?_
 rintro e w5 ⟨x4, rfl, x4a, x4b, htn, hgn, hsn⟩
 have H6 := hid (H3.out.next 0 rfl htn hgn)
 clear htn hgn hsn
 go_wp2_with fail
 refine (nextB_any B K1 _ _ (by omega) (H6.out.tapeAt 0 rfl)).mono ?_
 rintro e w8 ⟨x7, rfl, x7a, x7b, htn, hgn, hsn⟩
 have H9 := hid (H6.out.next 0 rfl htn hgn)
 clear htn hgn hsn
 go_wp2_with fail
 refine (nextB_any B K1 _ _ (by omega) (H9.out.tapeAt 0 rfl)).mono ?_
 rintro e w11 ⟨x10, rfl, x10a, x10b, htn, hgn, hsn⟩
 have H12 := hid (H9.out.next 0 rfl htn hgn)
 clear htn hgn hsn
 go_wp2_with fail
 refine (nextB_any B K1 _ _ (by omega) (H12.out.tapeAt 0 rfl)).mono ?_
 rintro e w14 ⟨x13, rfl, x13a, x13b, htn, hgn, hsn⟩
 have H15 := hid (H12.out.next 0 rfl htn hgn)
 clear htn hgn hsn
 go_upto_region 3 with fail
 obtain ⟨w9, hw9⟩ : ∃ z, 1 + x4 = z := ⟨_, rfl⟩
 simp only [hw9]
 obtain ⟨w9a, w9b⟩ : 1 ≤ w9 ∧ w9 ≤ 9 := by omega
 clear hw9
 obtain ⟨h9, hh9⟩ : ∃ z, 1 + x7 = z := ⟨_, rfl⟩
 simp only [hh9]
 obtain ⟨h9a, h9b⟩ : 1 ≤ h9 ∧ h9 ≤ 9 := by omega
 clear hh9
 obtain ⟨tw9, htw9⟩ : ∃ z, 1 + x10 = z := ⟨_, rfl⟩
 simp only [htw9]
 obtain ⟨tw9a, tw9b⟩ : 1 ≤ tw9 ∧ tw9 ≤ 4 := by omega
 clear htw9
 obtain ⟨th9, hth9⟩ : ∃ z, 1 + x13 = z := ⟨_, rfl⟩
 simp only [hth9]
 obtain ⟨th9a, th9b⟩ : 1 ≤ th9 ∧ th9 ≤ 4 := by omega
 clear hth9
 go_wp2_with fail
 refine (stage16_any K1 w9 h9 (by omega) (by omega) (show St B W [.tape K1] [] _ from H15.out.pick [0] rfl (by decide))).mono ?_
 rintro e w17 ⟨⟨kd16, sa16, sb16, bar16, ep16, ef16, kw16, kh16, wa16, wc16, wl16, ra16, rc16, rl16, ca16, cc16, cl16, sh16, sh216, xa16, xn16, xc16, xp16, ya16, yn16, yc16, yp16, bins16, oa16, on16, oc16, ol16, mx16⟩, R19, rfl, ⟨ln16_0, ln16_1, ln16_2, ln16_3, ln16_4, ln16_5⟩, hqx, hqy, hst9⟩
 simp only at ln16_0 ln16_1 ln16_2 ln16_3 ln16_4 ln16_5 hqx hqy
 have H18 := hid (show St B W [.arr (68) 2 (.slice xa16 xn16 xc16) xn16 (tapV xp16), .arr (68) 2 (.slice ya16 yn16 yc16) yn16 (tapV yp16), .own (.slice wa16 wl16.length wc16) wl16, .own (.slice ra16 rl16.length rc16) rl16, .own (.slice ca16 cl16.length cc16) cl16, .arr (70) 2 (.slice oa16 on16 oc16) on16 (prV ol16), .tape K1] R19 w17 from hst9)
 clear hst9
 have HQxp16 := hid hqx
 have HQyp16 := hid hqy
 clear hqx hqy
 obtain ⟨A16, hA16⟩ : ∃ z : Array Value, Sg.val ⟨kd16, sa16, sb16, bar16, ep16, ef16, kw16, kh16, wa16, wc16, wl16, ra16, rc16, rl16, ca16, cc16, cl16, sh16, sh216, xa16, xn16, xc16, xp16, ya16, yn16, yc16, yp16, bins16, oa16, on16, oc16, ol16, mx16⟩ = z := ⟨_, rfl⟩
 rw [hA16]
 have HVA16 := hid hA16.symm
 have HA16 := hid (show A16 = #[.int .i64 kd16, .int .i64 sa16, .int .i64 sb16, .bool bar16, .int .i64 ep16, .int .i64 ef16, .int .i64 kw16, .int .i64 kh16, .slice wa16 wl16.length wc16, .slice ra16 rl16.length rc16, .slice ca16 cl16.length cc16, .int .i64 sh16, .int .i64 sh216, .slice xa16 xn16 xc16, .slice ya16 yn16 yc16, .int .i64 bins16, .slice oa16 on16 oc16, .int .i64 mx16] from hA16.symm)
 clear hA16
 obtain ⟨D20, hD20⟩ : ∃ D, w17.heap.size = D := ⟨_, rfl⟩
 have H21 := hid (show St B W [.cells D20 #[.int .i64 0, .int .i64 0, .int .i64 0, .bool false, .int .i64 0, .int .i64 0, .int .i64 0, .int .i64 0, .slice none 0 0, .slice none 0 0, .slice none 0 0, .int .i64 0, .int .i64 0, .slice none 0 0, .slice none 0 0, .int .i64 0, .slice none 0 0, .int .i64 0] 33, .arr (68) 2 (.slice xa16 xn16 xc16) xn16 (tapV xp16), .arr (68) 2 (.slice ya16 yn16 yc16) yn16 (tapV yp16), .own (.slice wa16 wl16.length wc16) wl16, .own (.slice ra16 rl16.length rc16) rl16, .own (.slice ca16 cl16.length cc16) cl16, .arr (70) 2 (.slice oa16 on16 oc16) on16 (prV ol16), .tape K1] R19 (w17.alloc (.cells #[.int .i64 0, .int .i64 0, .int .i64 0, .bool false, .int .i64 0, .int .i64 0, .int .i64 0, .int .i64 0, .slice none 0 0, .slice none 0 0, .slice none 0 0, .int .i64 0, .int .i64 0, .slice none 0 0, .slice none 0 0, .int .i64 0, .slice none 0 0, .int .i64 0] 33)) from (H18.out.alloc #[.int .i64 0, .int .i64 0, .int .i64 0, .bool false, .int .i64 0, .int .i64 0, .int .i64 0, .int .i64 0, .slice none 0 0, .slice none 0 0, .slice none 0 0, .int .i64 0, .int .i64 0, .slice none 0 0, .slice none 0 0, .int .i64 0, .slice none 0 0, .int .i64 0] 33 hD20))
 go_upto_region 4 with (refine storeArm (H21.out.rowAt 0 rfl) (cs' := A16) (by rw [HA16.out]; first | rfl | kernel_rfl) (by rw [HA16.out]; first | rfl | kernel_rfl) (by rw [HA16.out]; first | rfl | kernel_rfl) (by rfl) (by rfl) (by rfl) ?_)
 clear H21
 have H22 := hid (show St B W [.cells D20 A16 33, .arr (68) 2 (.slice xa16 xn16 xc16) xn16 (tapV xp16), .arr (68) 2 (.slice ya16 yn16 yc16) yn16 (tapV yp16), .own (.slice wa16 wl16.length wc16) wl16, .own (.slice ra16 rl16.length rc16) rl16, .own (.slice ca16 cl16.length cc16) cl16, .arr (70) 2 (.slice oa16 on16 oc16) on16 (prV ol16), .tape K1] R19 ((w17.alloc (.cells #[.int .i64 0, .int .i64 0, .int .i64 0, .bool false, .int .i64 0, .int .i64 0, .int .i64 0, .int .i64 0, .slice none 0 0, .slice none 0 0, .slice none 0 0, .int .i64 0, .int .i64 0, .slice none 0 0, .slice none 0 0, .int .i64 0, .slice none 0 0, .int .i64 0] 33)).setRow D20 A16) from ((H18.out.alloc #[.int .i64 0, .int .i64 0, .int .i64 0, .bool false, .int .i64 0, .int .i64 0, .int .i64 0, .int .i64 0, .slice none 0 0, .slice none 0 0, .slice none 0 0, .int .i64 0, .int .i64 0, .slice none 0 0, .slice none 0 0, .int .i64 0, .slice none 0 0, .int .i64 0] 33 hD20).setRow 0 rfl A16))
 first | refine gen_code H22.out ?_ | refine gen_list H22.out ?_ | refine gen_calls H22.out ?_
 intro w23 hG
 clear H22
 have H22 := hid hG
 clear hG
 clear hD20
 go_wp2_with fail
 refine (within_any B K1 _ _ _ (by omega) (by omega) (by omega) (by omega) (H22.out.tapeAt 7 rfl)).mono ?_
 rintro e w25 ⟨q24_0, q24_1, q24_2, q24_3, rfl, hq24, ht, hg⟩
 have H26 := hid (H22.out.next 7 rfl ht hg)
 have HWq24 := hid hq24
 clear hq24 ht hg
 obtain ⟨D27, hD27⟩ : ∃ D, w25.heap.size = D := ⟨_, rfl⟩
 go_upto_region 5 with fail
 have H28 := hid (show St B W [.cells D27 #[.int .i64 q24_0, .int .i64 q24_1, .int .i64 q24_2, .int .i64 q24_3] 24, .cells D20 A16 33, .arr (68) 2 (.slice xa16 xn16 xc16) xn16 (tapV xp16), .arr (68) 2 (.slice ya16 yn16 yc16) yn16 (tapV yp16), .own (.slice wa16 wl16.length wc16) wl16, .own (.slice ra16 rl16.length rc16) rl16, .own (.slice ca16 cl16.length cc16) cl16, .arr (70) 2 (.slice oa16 on16 oc16) on16 (prV ol16), .tape K1] R19 (w25.alloc (.cells #[.int .i64 q24_0, .int .i64 q24_1, .int .i64 q24_2, .int .i64 q24_3] 24)) from (H26.out.alloc #[.int .i64 q24_0, .int .i64 q24_1, .int .i64 q24_2, .int .i64 q24_3] 24 hD27))
 first | refine gen_code H28.out ?_ | refine gen_list H28.out ?_ | refine gen_calls H28.out ?_
 intro w29 hG
 clear H28
 have H28 := hid hG
 clear hG
 clear hD27
 have z30 := H28.out.cell 0 rfl 0 rfl
 have z31 := H28.out.cell 0 rfl 1 rfl
 have z32 := H28.out.cell 0 rfl 2 rfl
 have z33 := H28.out.cell 0 rfl 3 rfl
 have z34 := H28.out.loadStg 1 rfl (by rw [HA16.out]; rfl)
 go_wp2_with (refine loadArm z34 (by rfl) (by rfl) ?_)
 clear z30 z31 z32 z33 z34
 refine (ftiles_any HA16.out (tapD xp16) (tapD yp16) _ _ _ _ _ _ _ _ _ (H28.out.taps 2 rfl HQxp16.out) (H28.out.taps 3 rfl HQyp16.out)).mono ?_
 rintro e w35 ⟨v36, rfl, ho, hb⟩
 obtain ⟨l37, hl37⟩ : ∃ xx', tlL (stCol kd16 sb16 ep16 ef16 kw16 kh16 wl16.length rl16.length cl16.length sh16 sh216 xn16 yn16 bins16 on16 mx16 (tapD xp16) (tapD yp16) w9 q24_0 q24_2) (stRow kd16 sb16 ep16 ef16 kw16 kh16 wl16.length rl16.length cl16.length sh16 sh216 xn16 yn16 bins16 on16 mx16 (tapD xp16) (tapD yp16) h9 q24_1 q24_3) w9 h9 tw9 th9 = xx' := ⟨_, rfl⟩
 rw [hl37] at ho
 have HNl37 := hid hl37
 clear hl37
 have H38 := hid (H28.out.grow hb ho)
 obtain ⟨v36a, v36c, rfl, _⟩ := ho.slc
 clear ho hb
 go_upto_region 6 with fail
 have H39 := hid H38.out.drew
 refine wp_region_held_drew (S := (fun w' => w'.cell? ⟨D27, 0, none⟩ = some (.int .i64 q24_0) ∧ w'.cell? ⟨D27, 1, none⟩ = some (.int .i64 q24_1) ∧ w'.cell? ⟨D27, 2, none⟩ = some (.int .i64 q24_2) ∧ w'.cell? ⟨D27, 3, none⟩ = some (.int .i64 q24_3) ∧ (Instr.loadAt 33 (.pointer (some ⟨D20, 0, none⟩))).run Try.prog w' = .ok (.agg A16) w')) (by kernel_rfl) ⟨H39.out.cell 1 rfl 0 rfl, H39.out.cell 1 rfl 1 rfl, H39.out.cell 1 rfl 2 rfl, H39.out.cell 1 rfl 3 rfl, H39.out.loadStg 2 rfl (by rw [HA16.out]; rfl)⟩ (fun hHeld => ?_)
 generalize w35.drew = k40 at *
 refine tkA 0 (v := .agg A16) ?_ (hy := fun wS hSw => loadExec hSw.2.2.2.2 (by rfl))
 try simp only [Act.put, p1, p2, p3, p4, p5, p6]
 refine tkA 1 ?_
 try simp only [Act.put, p1, p2, p3, p4, p5, p6]
 refine tkA 2 ?_
 try simp only [Act.put, p1, p2, p3, p4, p5, p6]
 refine tkA 3 ?_
 try simp only [Act.put, p1, p2, p3, p4, p5, p6]
 refine tkA 4 ?_
 try simp only [Act.put, p1, p2, p3, p4, p5, p6]
 refine tkA 5 ?_
 try simp only [Act.put, p1, p2, p3, p4, p5, p6]
 refine tkA 7 (v := .agg A16) ?_ (hy := fun wS hSw => loadExec hSw.2.2.2.2 (by rfl))
 try simp only [Act.put, p1, p2, p3, p4, p5, p6]
 refine tkA 8 ?_
 try simp only [Act.put, p1, p2, p3, p4, p5, p6]
 refine tkA 9 ?_
 try simp only [Act.put, p1, p2, p3, p4, p5, p6]
 refine tkA 10 ?_
 try simp only [Act.put, p1, p2, p3, p4, p5, p6]
 refine tkA 11 ?_
 try simp only [Act.put, p1, p2, p3, p4, p5, p6]
 refine tkA 12 ?_
 try simp only [Act.put, p1, p2, p3, p4, p5, p6]
 refine wpAnyH_ready (rs := [6]) (by kernel_rfl) (by simp) (AllReadyH.cons (o := _) rfl (fun K hK => ?_) AllReadyH.nil)
 go_simp
 go_at_call 12
 refine (columns_A HA16.out (tapD xp16) (tapD yp16) _ _ _ _ (H39.out.taps 3 rfl HQxp16.out) (H39.out.taps 4 rfl HQyp16.out)).mono ?_
 rintro e w41 ⟨v42, rfl, ho, hb⟩
 obtain ⟨l43, hl43⟩ : ∃ xx', stCol kd16 sb16 ep16 ef16 kw16 kh16 wl16.length rl16.length cl16.length sh16 sh216 xn16 yn16 bins16 on16 mx16 (tapD xp16) (tapD yp16) w9 q24_0 q24_2 = xx' := ⟨_, rfl⟩
 rw [hl43] at ho
 have HNl43 := hid hl43
 clear hl43
 have H44 := hid (H39.out.grow hb ho)
 obtain ⟨v42a, v42c, rfl, _⟩ := ho.slc
 clear ho hb
 refine hK.out _ _ ?_ (fun hHeld2 => ?_)
 focus ((try dsimp only); (exact ⟨H44.out.cell 2 rfl 0 rfl, H44.out.cell 2 rfl 1 rfl, H44.out.cell 2 rfl 2 rfl, H44.out.cell 2 rfl 3 rfl, H44.out.loadStg 3 rfl (by rw [HA16.out]; rfl)⟩))
 clear hK K
 try simp only [Act.put, p1, p2, p3, p4, p5, p6]
 clear hHeld
 have hHeld := hHeld2
 clear hHeld2
 refine wpAnyH_ready (rs := [13]) (by kernel_rfl) (by simp) (AllReadyH.cons (o := _) rfl (fun K hK => ?_) AllReadyH.nil)
 go_simp
 go_at_call 14
 refine (rows_A HA16.out (tapD xp16) (tapD yp16) _ _ _ _ (H44.out.taps 4 rfl HQxp16.out) (H44.out.taps 5 rfl HQyp16.out)).mono ?_
 rintro e w45 ⟨v46, rfl, ho, hb⟩
 obtain ⟨l47, hl47⟩ : ∃ xx', stRow kd16 sb16 ep16 ef16 kw16 kh16 wl16.length rl16.length cl16.length sh16 sh216 xn16 yn16 bins16 on16 mx16 (tapD xp16) (tapD yp16) h9 q24_1 q24_3 = xx' := ⟨_, rfl⟩
 rw [hl47] at ho
 have HNl47 := hid hl47
 clear hl47
 have H48 := hid (H44.out.grow hb ho)
 obtain ⟨v46a, v46c, rfl, _⟩ := ho.slc
 clear ho hb
 refine hK.out _ _ ?_ (fun hHeld2 => ?_)
 focus ((try dsimp only); (exact ⟨H48.out.cell 3 rfl 0 rfl, H48.out.cell 3 rfl 1 rfl, H48.out.cell 3 rfl 2 rfl, H48.out.cell 3 rfl 3 rfl, H48.out.loadStg 4 rfl (by rw [HA16.out]; rfl)⟩))
 clear hK K
 try simp only [Act.put, p1, p2, p3, p4, p5, p6]
 clear hHeld
 have hHeld := hHeld2
 clear hHeld2
 refine tkA 14 ?_
 try simp only [Act.put, p1, p2, p3, p4, p5, p6]
 refine tkA 15 ?_
 try simp only [Act.put, p1, p2, p3, p4, p5, p6]
 refine wpAnyH_done (by kernel_rfl) ?_ _
 try clear hHeld
 have hC9 : l43.length ≤ 128 := by rw [← HNl43.out]; exact stCol_len (by omega)
 have hR9 : l47.length ≤ 128 := by rw [← HNl47.out]; exact stRow_len (by omega)
 go_wp2_with fail
 refine (count_any _ _ _ _ _).mono ?_
 rintro e w49 ⟨rfl, hsw⟩
 have hsw2 : w45 = w49 := by first | exact hsw | exact hsw.symm
 clear hsw
 subst hsw2
 have hg9 : gOk w9 h9 tw9 th9 = true := gOk_iff.2 (by omega)
 have hbd := gN_bd hg9
 obtain ⟨NX, hNX⟩ : ∃ m : Nat, gNx w9 h9 tw9 th9 = m := ⟨(gNx w9 h9 tw9 th9).toNat, by omega⟩
 obtain ⟨NY, hNY⟩ : ∃ m : Nat, gNy w9 h9 tw9 th9 = m := ⟨(gNy w9 h9 tw9 th9).toNat, by omega⟩
 obtain ⟨nx1, nx2, ny1, ny2⟩ : 1 ≤ NX ∧ NX ≤ 128 ∧ 1 ≤ NY ∧ NY ≤ 128 := by omega
 clear hbd
 rw [hNX, hNY]
 have HNX := hid hNX
 have HNY := hid hNY
 clear hNX hNY
 have HG9 := hid hg9
 clear hg9
 obtain ⟨NN, hNN⟩ : ∃ m : Nat, NX * NY = m := ⟨_, rfl⟩
 have nn1 : 1 ≤ NN := by rw [← hNN]; exact Nat.mul_pos nx1 ny1
 have nn2 : NN ≤ 16384 := by rw [← hNN]; exact Nat.mul_le_mul nx2 ny2
 have hNI : (NX : Int) * (NY : Int) = (NN : Int) := by rw [← hNN, Int.natCast_mul]
 have HNI := hid hNI
 have wpn : IntKind.i64.wrap ((NX : Int) * (NY : Int)) = (NN : Int) := by rw [hNI]; exact IntWalk.i64_in _ (by omega)
 clear hNI hNN
 have hnx0 : ¬ ((NX : Int) < 1) := by omega
 have hny0 : ¬ ((NY : Int) < 1) := by omega
 go_wp2_with fail
 refine (mod_any _ _ _ (by omega) (by omega)).mono ?_
 rintro e w50 ⟨rfl, hsw⟩
 have hsw2 : w45 = w50 := by first | exact hsw | exact hsw.symm
 clear hsw
 subst hsw2
 obtain ⟨md51, hmd51⟩ : ∃ xx', ia % (NN : Int) = xx' := ⟨_, rfl⟩
 rw [hmd51]
 have HNmd51 := hid hmd51
 clear hmd51
 obtain ⟨md51a, md51b⟩ : 0 ≤ md51 ∧ md51 < (NN : Int) := by rw [← HNmd51.out]; exact ⟨Int.emod_nonneg _ (by omega), Int.emod_lt_of_pos _ (by omega)⟩
 obtain ⟨IN, hIN⟩ : ∃ m : Nat, md51 = m := ⟨md51.toNat, by omega⟩
 subst hIN
 go_wp2_with fail
 refine (tile_any w9 h9 tw9 th9 (IN : Int) _ (by omega)).mono ?_
 rintro e w52 ⟨rfl, hb⟩
 have H53 := hid (H48.out.call hb)
 clear hb
 have hin9 : (IN : Int) < gNx w9 h9 tw9 th9 * gNy w9 h9 tw9 th9 := by rw [HNX.out, HNY.out, HNI.out]; omega
 rw [show gTok w9 h9 tw9 th9 (IN : Int) = true from gTok_iff.2 ⟨HG9.out, by omega, hin9⟩]
 have HIN := hid hin9
 clear hin9
 obtain ⟨g0, hg0⟩ : ∃ xx', gT0 w9 h9 tw9 th9 (IN : Int) = xx' := ⟨_, rfl⟩
 rw [hg0]
 have HG0 := hid hg0
 clear hg0
 obtain ⟨g1, hg1⟩ : ∃ xx', gT1 w9 h9 tw9 th9 (IN : Int) = xx' := ⟨_, rfl⟩
 rw [hg1]
 have HG1 := hid hg1
 clear hg1
 obtain ⟨g2, hg2⟩ : ∃ xx', gT2 w9 h9 tw9 th9 (IN : Int) = xx' := ⟨_, rfl⟩
 rw [hg2]
 have HG2 := hid hg2
 clear hg2
 obtain ⟨g3, hg3⟩ : ∃ xx', gT3 w9 h9 tw9 th9 (IN : Int) = xx' := ⟨_, rfl⟩
 rw [hg3]
 have HG3 := hid hg3
 clear hg3
 obtain ⟨D54, hD54⟩ : ∃ D, w52.heap.size = D := ⟨_, rfl⟩
 go_upto_region 12 with fail
 have H55 := hid (show St B W [.cells D54 #[.int .i64 g0, .int .i64 g1, .int .i64 g2, .int .i64 g3] 24, .own (.slice v46a l47.length v46c) l47, .own (.slice v42a l43.length v42c) l43, .own (.slice v36a l37.length v36c) l37, .cells D27 #[.int .i64 q24_0, .int .i64 q24_1, .int .i64 q24_2, .int .i64 q24_3] 24, .cells D20 A16 33, .arr (68) 2 (.slice xa16 xn16 xc16) xn16 (tapV xp16), .arr (68) 2 (.slice ya16 yn16 yc16) yn16 (tapV yp16), .own (.slice wa16 wl16.length wc16) wl16, .own (.slice ra16 rl16.length rc16) rl16, .own (.slice ca16 cl16.length cc16) cl16, .arr (70) 2 (.slice oa16 on16 oc16) on16 (prV ol16), .tape K1] R19 (w52.alloc (.cells #[.int .i64 g0, .int .i64 g1, .int .i64 g2, .int .i64 g3] 24)) from (H53.out.alloc #[.int .i64 g0, .int .i64 g1, .int .i64 g2, .int .i64 g3] 24 hD54))
 first | refine gen_code H55.out ?_ | refine gen_list H55.out ?_ | refine gen_calls H55.out ?_
 intro w56 hG
 clear H55
 have H55 := hid hG
 clear hG
 clear hD54
 go_wp2_with fail
 go_loopw [22, 20] (fun i v wr => ∃ (j : Nat) (mb : Bool), j ≤ l43.length ∧ memJ l43 g0 g2 j = mb ∧ i = .int .i64 j ∧ v = .bool mb ∧ St B W [.cells D54 #[.int .i64 g0, .int .i64 g1, .int .i64 g2, .int .i64 g3] 24, .own (.slice v46a l47.length v46c) l47, .own (.slice v42a l43.length v42c) l43, .own (.slice v36a l37.length v36c) l37, .cells D27 #[.int .i64 q24_0, .int .i64 q24_1, .int .i64 q24_2, .int .i64 q24_3] 24, .cells D20 A16 33, .arr (68) 2 (.slice xa16 xn16 xc16) xn16 (tapV xp16), .arr (68) 2 (.slice ya16 yn16 yc16) yn16 (tapV yp16), .own (.slice wa16 wl16.length wc16) wl16, .own (.slice ra16 rl16.length rc16) rl16, .own (.slice ca16 cl16.length cc16) cl16, .arr (70) 2 (.slice oa16 on16 oc16) on16 (prV ol16), .tape K1] R19 wr) (fun i _ _ => l43.length - (intOf i).toNat)
 case atStart => exact ⟨0, false, by omega, memJ_zero _ _ _, rfl, rfl, H55.out⟩
 case round =>
  obtain ⟨j, mb, hj, hmj, rfl, rfl, hst⟩ := hrel
  obtain ⟨u57, rfl⟩ : ∃ u57 : World, u57 = wr := ⟨_, rfl⟩
  have H58 := hid hst
  clear hst
  have HMJ := hid hmj
  clear hmj
  by_cases hjn : j < l43.length
  ·
   skip
   have hjn' : (j : Int) < l43.length := by omega
   obtain ⟨g9, c9, hva⟩ := (H58.out.own 2 rfl).pos (by omega)
   injection hva with hv1 hv2 hv3
   subst hv1 hv3
   obtain ⟨z, hz⟩ : ∃ z, l43.getD j 0 = z := ⟨_, rfl⟩
   have HZ := hid hz
   clear hz
   go_upto_region 16 with fail
   cases mb with
   | true =>
    go_upto_region 16 with fail
    have H59 := hid H58.out.drew
    refine wp_region_held_drew (S := (fun w' => w'.cell? ⟨D54, 0, none⟩ = some (.int .i64 g0) ∧ w'.cell? ⟨D54, 1, none⟩ = some (.int .i64 g1) ∧ w'.cell? ⟨D54, 2, none⟩ = some (.int .i64 g2) ∧ w'.cell? ⟨D54, 3, none⟩ = some (.int .i64 g3) ∧ w'.cell? ⟨g9, j, none⟩ = some (.int .i64 z))) (by kernel_rfl) ⟨H59.out.cell 0 rfl 0 rfl, H59.out.cell 0 rfl 1 rfl, H59.out.cell 0 rfl 2 rfl, H59.out.cell 0 rfl 3 rfl, (by have h9 := (H59.out.get 2 rfl (j := j) (by omega)).1; rw [HZ.out] at h9; exact h9)⟩ (fun hHeld => ?_)
    generalize u57.drew = k60 at *
    refine tkA 0 ?_
    try simp only [Act.put, p1, p2, p3, p4, p5, p6]
    refine tkA 1 ?_
    try simp only [Act.put, p1, p2, p3, p4, p5, p6]
    refine tkU 2 ?_
    try simp only [Act.put, p1, p2, p3, p4, p5, p6]
    refine tkU 3 ?_
    try simp only [Act.put, p1, p2, p3, p4, p5, p6]
    refine tkU 4 ?_
    try simp only [Act.put, p1, p2, p3, p4, p5, p6]
    refine tkU 5 ?_
    try simp only [Act.put, p1, p2, p3, p4, p5, p6]
    refine tkU 6 ?_
    try simp only [Act.put, p1, p2, p3, p4, p5, p6]
    refine tkU 7 ?_
    try simp only [Act.put, p1, p2, p3, p4, p5, p6]
    refine tkU 8 ?_
    try simp only [Act.put, p1, p2, p3, p4, p5, p6]
    refine tkU 9 ?_
    try simp only [Act.put, p1, p2, p3, p4, p5, p6]
    refine tkU 10 ?_
    try simp only [Act.put, p1, p2, p3, p4, p5, p6]
    refine tkU 11 ?_
    try simp only [Act.put, p1, p2, p3, p4, p5, p6]
    refine tkU 12 ?_
    try simp only [Act.put, p1, p2, p3, p4, p5, p6]
    refine tkU 13 ?_
    try simp only [Act.put, p1, p2, p3, p4, p5, p6]
    refine tkU 14 ?_
    try simp only [Act.put, p1, p2, p3, p4, p5, p6]
    refine tkU 15 ?_
    try simp only [Act.put, p1, p2, p3, p4, p5, p6]
    refine tkU 16 ?_
    try simp only [Act.put, p1, p2, p3, p4, p5, p6]
    refine tkU 17 ?_
    try simp only [Act.put, p1, p2, p3, p4, p5, p6]
    refine tkA 18 ?_
    try simp only [Act.put, p1, p2, p3, p4, p5, p6]
    refine tkA 19 ?_
    try simp only [Act.put, p1, p2, p3, p4, p5, p6]
    refine wpAnyH_done (by kernel_rfl) ?_ _
    try clear hHeld
    go_wp2_with fail
    go_roundw
    case rel => exact ⟨j + 1, true, by omega, by rw [memJ_succ (by omega), HMJ.out, HZ.out]; first | rfl | (rw [Bool.false_or]; first | exact decide_eq_true (by omega) | exact decide_eq_false (by omega)), by go_num, rfl, H59.out⟩
    case measure => first | (simp [intOf]; omega) | (simp [intOf]; done)
   | false =>
    by_cases hq1 : g0 ≤ z
    ·
     skip
     by_cases hq2 : z < g2
     ·
      skip
      go_upto_region 16 with fail
      have H61 := hid H58.out.drew
      refine wp_region_held_drew (S := (fun w' => w'.cell? ⟨D54, 0, none⟩ = some (.int .i64 g0) ∧ w'.cell? ⟨D54, 1, none⟩ = some (.int .i64 g1) ∧ w'.cell? ⟨D54, 2, none⟩ = some (.int .i64 g2) ∧ w'.cell? ⟨D54, 3, none⟩ = some (.int .i64 g3) ∧ w'.cell? ⟨g9, j, none⟩ = some (.int .i64 z))) (by kernel_rfl) ⟨H61.out.cell 0 rfl 0 rfl, H61.out.cell 0 rfl 1 rfl, H61.out.cell 0 rfl 2 rfl, H61.out.cell 0 rfl 3 rfl, (by have h9 := (H61.out.get 2 rfl (j := j) (by omega)).1; rw [HZ.out] at h9; exact h9)⟩ (fun hHeld => ?_)
      generalize u57.drew = k62 at *
      refine tkA 0 ?_
      try simp only [Act.put, p1, p2, p3, p4, p5, p6]
      refine tkA 1 ?_
      try simp only [Act.put, p1, p2, p3, p4, p5, p6]
      refine tkA 2 ?_
      try simp only [Act.put, p1, p2, p3, p4, p5, p6]
      refine tkA 3 ?_
      try simp only [Act.put, p1, p2, p3, p4, p5, p6]
      refine tkA 4 ?_
      try simp only [Act.put, p1, p2, p3, p4, p5, p6]
      refine tkA 5 ?_
      try simp only [Act.put, p1, p2, p3, p4, p5, p6]
      refine tkA 6 ?_
      try simp only [Act.put, p1, p2, p3, p4, p5, p6]
      refine tkA 7 ?_
      try simp only [Act.put, p1, p2, p3, p4, p5, p6]
      refine tkA 8 ?_
      try simp only [Act.put, p1, p2, p3, p4, p5, p6]
      refine tkA 9 ?_
      try simp only [Act.put, p1, p2, p3, p4, p5, p6]
      refine tkA 10 ?_
      try simp only [Act.put, p1, p2, p3, p4, p5, p6]
      refine tkA 11 ?_
      try simp only [Act.put, p1, p2, p3, p4, p5, p6]
      refine tkA 12 ?_
      try simp only [Act.put, p1, p2, p3, p4, p5, p6]
      refine tkA 13 ?_
      try simp only [Act.put, p1, p2, p3, p4, p5, p6]
      refine tkA 14 ?_
      try simp only [Act.put, p1, p2, p3, p4, p5, p6]
      refine tkA 15 ?_
      try simp only [Act.put, p1, p2, p3, p4, p5, p6]
      refine tkA 16 ?_
      try simp only [Act.put, p1, p2, p3, p4, p5, p6]
      refine tkA 17 ?_
      try simp only [Act.put, p1, p2, p3, p4, p5, p6]
      refine tkA 18 ?_
      try simp only [Act.put, p1, p2, p3, p4, p5, p6]
      refine tkA 19 ?_
      try simp only [Act.put, p1, p2, p3, p4, p5, p6]
      refine wpAnyH_done (by kernel_rfl) ?_ _
      try clear hHeld
      go_wp2_with fail
      go_roundw
      case rel => exact ⟨j + 1, true, by omega, by rw [memJ_succ (by omega), HMJ.out, HZ.out]; first | rfl | (rw [Bool.false_or]; first | exact decide_eq_true (by omega) | exact decide_eq_false (by omega)), by go_num, rfl, H61.out⟩
      case measure => first | (simp [intOf]; omega) | (simp [intOf]; done)
     ·
      skip
      go_upto_region 16 with fail
      have H63 := hid H58.out.drew
      refine wp_region_held_drew (S := (fun w' => w'.cell? ⟨D54, 0, none⟩ = some (.int .i64 g0) ∧ w'.cell? ⟨D54, 1, none⟩ = some (.int .i64 g1) ∧ w'.cell? ⟨D54, 2, none⟩ = some (.int .i64 g2) ∧ w'.cell? ⟨D54, 3, none⟩ = some (.int .i64 g3) ∧ w'.cell? ⟨g9, j, none⟩ = some (.int .i64 z))) (by kernel_rfl) ⟨H63.out.cell 0 rfl 0 rfl, H63.out.cell 0 rfl 1 rfl, H63.out.cell 0 rfl 2 rfl, H63.out.cell 0 rfl 3 rfl, (by have h9 := (H63.out.get 2 rfl (j := j) (by omega)).1; rw [HZ.out] at h9; exact h9)⟩ (fun hHeld => ?_)
      generalize u57.drew = k64 at *
      refine tkA 0 ?_
      try simp only [Act.put, p1, p2, p3, p4, p5, p6]
      refine tkA 1 ?_
      try simp only [Act.put, p1, p2, p3, p4, p5, p6]
      refine tkA 2 ?_
      try simp only [Act.put, p1, p2, p3, p4, p5, p6]
      refine tkA 3 ?_
      try simp only [Act.put, p1, p2, p3, p4, p5, p6]
      refine tkA 4 ?_
      try simp only [Act.put, p1, p2, p3, p4, p5, p6]
      refine tkA 5 ?_
      try simp only [Act.put, p1, p2, p3, p4, p5, p6]
      refine tkA 6 ?_
      try simp only [Act.put, p1, p2, p3, p4, p5, p6]
      refine tkA 7 ?_
      try simp only [Act.put, p1, p2, p3, p4, p5, p6]
      refine tkA 8 ?_
      try simp only [Act.put, p1, p2, p3, p4, p5, p6]
      refine tkA 9 ?_
      try simp only [Act.put, p1, p2, p3, p4, p5, p6]
      refine tkA 10 ?_
      try simp only [Act.put, p1, p2, p3, p4, p5, p6]
      refine tkA 11 ?_
      try simp only [Act.put, p1, p2, p3, p4, p5, p6]
      refine tkA 12 ?_
      try simp only [Act.put, p1, p2, p3, p4, p5, p6]
      refine tkA 13 ?_
      try simp only [Act.put, p1, p2, p3, p4, p5, p6]
      refine tkA 14 ?_
      try simp only [Act.put, p1, p2, p3, p4, p5, p6]
      refine tkA 15 ?_
      try simp only [Act.put, p1, p2, p3, p4, p5, p6]
      refine tkA 16 ?_
      try simp only [Act.put, p1, p2, p3, p4, p5, p6]
      refine tkA 17 ?_
      try simp only [Act.put, p1, p2, p3, p4, p5, p6]
      refine tkA 18 ?_
      try simp only [Act.put, p1, p2, p3, p4, p5, p6]
      refine tkA 19 ?_
      try simp only [Act.put, p1, p2, p3, p4, p5, p6]
      refine wpAnyH_done (by kernel_rfl) ?_ _
      try clear hHeld
      go_wp2_with fail
      go_roundw
      case rel => exact ⟨j + 1, false, by omega, by rw [memJ_succ (by omega), HMJ.out, HZ.out]; first | rfl | (rw [Bool.false_or]; first | exact decide_eq_true (by omega) | exact decide_eq_false (by omega)), by go_num, rfl, H63.out⟩
      case measure => first | (simp [intOf]; omega) | (simp [intOf]; done)
    ·
     skip
     have hq1' : ¬ (g0 ≤ z) := hq1
     go_upto_region 16 with fail
     have H65 := hid H58.out.drew
     refine wp_region_held_drew (S := (fun w' => w'.cell? ⟨D54, 0, none⟩ = some (.int .i64 g0) ∧ w'.cell? ⟨D54, 1, none⟩ = some (.int .i64 g1) ∧ w'.cell? ⟨D54, 2, none⟩ = some (.int .i64 g2) ∧ w'.cell? ⟨D54, 3, none⟩ = some (.int .i64 g3) ∧ w'.cell? ⟨g9, j, none⟩ = some (.int .i64 z))) (by kernel_rfl) ⟨H65.out.cell 0 rfl 0 rfl, H65.out.cell 0 rfl 1 rfl, H65.out.cell 0 rfl 2 rfl, H65.out.cell 0 rfl 3 rfl, (by have h9 := (H65.out.get 2 rfl (j := j) (by omega)).1; rw [HZ.out] at h9; exact h9)⟩ (fun hHeld => ?_)
     generalize u57.drew = k66 at *
     refine tkA 0 ?_
     try simp only [Act.put, p1, p2, p3, p4, p5, p6]
     refine tkA 1 ?_
     try simp only [Act.put, p1, p2, p3, p4, p5, p6]
     refine tkA 2 ?_
     try simp only [Act.put, p1, p2, p3, p4, p5, p6]
     refine tkA 3 ?_
     try simp only [Act.put, p1, p2, p3, p4, p5, p6]
     refine tkA 4 ?_
     try simp only [Act.put, p1, p2, p3, p4, p5, p6]
     refine tkA 5 ?_
     try simp only [Act.put, p1, p2, p3, p4, p5, p6]
     refine tkA 6 ?_
     try simp only [Act.put, p1, p2, p3, p4, p5, p6]
     refine tkA 7 ?_
     try simp only [Act.put, p1, p2, p3, p4, p5, p6]
     refine tkA 8 ?_
     try simp only [Act.put, p1, p2, p3, p4, p5, p6]
     refine tkA 9 ?_
     try simp only [Act.put, p1, p2, p3, p4, p5, p6]
     refine tkU 10 ?_
     try simp only [Act.put, p1, p2, p3, p4, p5, p6]
     refine tkU 11 ?_
     try simp only [Act.put, p1, p2, p3, p4, p5, p6]
     refine tkU 12 ?_
     try simp only [Act.put, p1, p2, p3, p4, p5, p6]
     refine tkU 13 ?_
     try simp only [Act.put, p1, p2, p3, p4, p5, p6]
     refine tkU 14 ?_
     try simp only [Act.put, p1, p2, p3, p4, p5, p6]
     refine tkU 15 ?_
     try simp only [Act.put, p1, p2, p3, p4, p5, p6]
     refine tkU 16 ?_
     try simp only [Act.put, p1, p2, p3, p4, p5, p6]
     refine tkA 17 ?_
     try simp only [Act.put, p1, p2, p3, p4, p5, p6]
     refine tkA 18 ?_
     try simp only [Act.put, p1, p2, p3, p4, p5, p6]
     refine tkA 19 ?_
     try simp only [Act.put, p1, p2, p3, p4, p5, p6]
     refine wpAnyH_done (by kernel_rfl) ?_ _
     try clear hHeld
     go_wp2_with fail
     go_roundw
     case rel => exact ⟨j + 1, false, by omega, by rw [memJ_succ (by omega), HMJ.out, HZ.out]; first | rfl | (rw [Bool.false_or]; first | exact decide_eq_true (by omega) | exact decide_eq_false (by omega)), by go_num, rfl, H65.out⟩
     case measure => first | (simp [intOf]; omega) | (simp [intOf]; done)
  ·
   skip
   have hjn' : ¬ ((j : Int) < l43.length) := by omega
   have hHM1 := HMJ.out
   rw [show j = l43.length by omega, memJ_all] at hHM1
   obtain ⟨ma, hbma⟩ : ∃ b, mb = b := ⟨_, rfl⟩
   rw [hbma] at hHM1 ⊢
   have HM1 := hid hHM1
   clear hHM1 HMJ hbma
   go_wp2_with fail
   go_loopw [23, 21] (fun i v wr => ∃ (j : Nat) (mb : Bool), j ≤ l47.length ∧ memJ l47 g1 g3 j = mb ∧ i = .int .i64 j ∧ v = .bool mb ∧ St B W [.cells D54 #[.int .i64 g0, .int .i64 g1, .int .i64 g2, .int .i64 g3] 24, .own (.slice v46a l47.length v46c) l47, .own (.slice v42a l43.length v42c) l43, .own (.slice v36a l37.length v36c) l37, .cells D27 #[.int .i64 q24_0, .int .i64 q24_1, .int .i64 q24_2, .int .i64 q24_3] 24, .cells D20 A16 33, .arr (68) 2 (.slice xa16 xn16 xc16) xn16 (tapV xp16), .arr (68) 2 (.slice ya16 yn16 yc16) yn16 (tapV yp16), .own (.slice wa16 wl16.length wc16) wl16, .own (.slice ra16 rl16.length rc16) rl16, .own (.slice ca16 cl16.length cc16) cl16, .arr (70) 2 (.slice oa16 on16 oc16) on16 (prV ol16), .tape K1] R19 wr) (fun i _ _ => l47.length - (intOf i).toNat)
   case atStart => exact ⟨0, false, by omega, memJ_zero _ _ _, rfl, rfl, H58.out⟩
   case round =>
    obtain ⟨j, mb, hj, hmj, rfl, rfl, hst⟩ := hrel
    obtain ⟨u67, rfl⟩ : ∃ u67 : World, u67 = wr := ⟨_, rfl⟩
    have H68 := hid hst
    clear hst
    have HMJ := hid hmj
    clear hmj
    by_cases hjn : j < l47.length
    ·
     skip
     have hjn' : (j : Int) < l47.length := by omega
     obtain ⟨g9, c9, hva⟩ := (H68.out.own 1 rfl).pos (by omega)
     injection hva with hv1 hv2 hv3
     subst hv1 hv3
     obtain ⟨z, hz⟩ : ∃ z, l47.getD j 0 = z := ⟨_, rfl⟩
     have HZ := hid hz
     clear hz
     go_upto_region 20 with fail
     cases mb with
     | true =>
      go_upto_region 20 with fail
      have H69 := hid H68.out.drew
      refine wp_region_held_drew (S := (fun w' => w'.cell? ⟨D54, 0, none⟩ = some (.int .i64 g0) ∧ w'.cell? ⟨D54, 1, none⟩ = some (.int .i64 g1) ∧ w'.cell? ⟨D54, 2, none⟩ = some (.int .i64 g2) ∧ w'.cell? ⟨D54, 3, none⟩ = some (.int .i64 g3) ∧ w'.cell? ⟨g9, j, none⟩ = some (.int .i64 z))) (by kernel_rfl) ⟨H69.out.cell 0 rfl 0 rfl, H69.out.cell 0 rfl 1 rfl, H69.out.cell 0 rfl 2 rfl, H69.out.cell 0 rfl 3 rfl, (by have h9 := (H69.out.get 1 rfl (j := j) (by omega)).1; rw [HZ.out] at h9; exact h9)⟩ (fun hHeld => ?_)
      generalize u67.drew = k70 at *
      refine tkA 0 ?_
      try simp only [Act.put, p1, p2, p3, p4, p5, p6]
      refine tkA 1 ?_
      try simp only [Act.put, p1, p2, p3, p4, p5, p6]
      refine tkU 2 ?_
      try simp only [Act.put, p1, p2, p3, p4, p5, p6]
      refine tkU 3 ?_
      try simp only [Act.put, p1, p2, p3, p4, p5, p6]
      refine tkU 4 ?_
      try simp only [Act.put, p1, p2, p3, p4, p5, p6]
      refine tkU 5 ?_
      try simp only [Act.put, p1, p2, p3, p4, p5, p6]
      refine tkU 6 ?_
      try simp only [Act.put, p1, p2, p3, p4, p5, p6]
      refine tkU 7 ?_
      try simp only [Act.put, p1, p2, p3, p4, p5, p6]
      refine tkU 8 ?_
      try simp only [Act.put, p1, p2, p3, p4, p5, p6]
      refine tkU 9 ?_
      try simp only [Act.put, p1, p2, p3, p4, p5, p6]
      refine tkU 10 ?_
      try simp only [Act.put, p1, p2, p3, p4, p5, p6]
      refine tkU 11 ?_
      try simp only [Act.put, p1, p2, p3, p4, p5, p6]
      refine tkU 12 ?_
      try simp only [Act.put, p1, p2, p3, p4, p5, p6]
      refine tkU 13 ?_
      try simp only [Act.put, p1, p2, p3, p4, p5, p6]
      refine tkU 14 ?_
      try simp only [Act.put, p1, p2, p3, p4, p5, p6]
      refine tkU 15 ?_
      try simp only [Act.put, p1, p2, p3, p4, p5, p6]
      refine tkU 16 ?_
      try simp only [Act.put, p1, p2, p3, p4, p5, p6]
      refine tkU 17 ?_
      try simp only [Act.put, p1, p2, p3, p4, p5, p6]
      refine tkA 18 ?_
      try simp only [Act.put, p1, p2, p3, p4, p5, p6]
      refine tkA 19 ?_
      try simp only [Act.put, p1, p2, p3, p4, p5, p6]
      refine wpAnyH_done (by kernel_rfl) ?_ _
      try clear hHeld
      go_wp2_with fail
      go_roundw
      case rel => exact ⟨j + 1, true, by omega, by rw [memJ_succ (by omega), HMJ.out, HZ.out]; first | rfl | (rw [Bool.false_or]; first | exact decide_eq_true (by omega) | exact decide_eq_false (by omega)), by go_num, rfl, H69.out⟩
      case measure => first | (simp [intOf]; omega) | (simp [intOf]; done)
     | false =>
      by_cases hq1 : g1 ≤ z
      ·
       skip
       by_cases hq2 : z < g3
       ·
        skip
        go_upto_region 20 with fail
        have H71 := hid H68.out.drew
        refine wp_region_held_drew (S := (fun w' => w'.cell? ⟨D54, 0, none⟩ = some (.int .i64 g0) ∧ w'.cell? ⟨D54, 1, none⟩ = some (.int .i64 g1) ∧ w'.cell? ⟨D54, 2, none⟩ = some (.int .i64 g2) ∧ w'.cell? ⟨D54, 3, none⟩ = some (.int .i64 g3) ∧ w'.cell? ⟨g9, j, none⟩ = some (.int .i64 z))) (by kernel_rfl) ⟨H71.out.cell 0 rfl 0 rfl, H71.out.cell 0 rfl 1 rfl, H71.out.cell 0 rfl 2 rfl, H71.out.cell 0 rfl 3 rfl, (by have h9 := (H71.out.get 1 rfl (j := j) (by omega)).1; rw [HZ.out] at h9; exact h9)⟩ (fun hHeld => ?_)
        generalize u67.drew = k72 at *
        refine tkA 0 ?_
        try simp only [Act.put, p1, p2, p3, p4, p5, p6]
        refine tkA 1 ?_
        try simp only [Act.put, p1, p2, p3, p4, p5, p6]
        refine tkA 2 ?_
        try simp only [Act.put, p1, p2, p3, p4, p5, p6]
        refine tkA 3 ?_
        try simp only [Act.put, p1, p2, p3, p4, p5, p6]
        refine tkA 4 ?_
        try simp only [Act.put, p1, p2, p3, p4, p5, p6]
        refine tkA 5 ?_
        try simp only [Act.put, p1, p2, p3, p4, p5, p6]
        refine tkA 6 ?_
        try simp only [Act.put, p1, p2, p3, p4, p5, p6]
        refine tkA 7 ?_
        try simp only [Act.put, p1, p2, p3, p4, p5, p6]
        refine tkA 8 ?_
        try simp only [Act.put, p1, p2, p3, p4, p5, p6]
        refine tkA 9 ?_
        try simp only [Act.put, p1, p2, p3, p4, p5, p6]
        refine tkA 10 ?_
        try simp only [Act.put, p1, p2, p3, p4, p5, p6]
        refine tkA 11 ?_
        try simp only [Act.put, p1, p2, p3, p4, p5, p6]
        refine tkA 12 ?_
        try simp only [Act.put, p1, p2, p3, p4, p5, p6]
        refine tkA 13 ?_
        try simp only [Act.put, p1, p2, p3, p4, p5, p6]
        refine tkA 14 ?_
        try simp only [Act.put, p1, p2, p3, p4, p5, p6]
        refine tkA 15 ?_
        try simp only [Act.put, p1, p2, p3, p4, p5, p6]
        refine tkA 16 ?_
        try simp only [Act.put, p1, p2, p3, p4, p5, p6]
        refine tkA 17 ?_
        try simp only [Act.put, p1, p2, p3, p4, p5, p6]
        refine tkA 18 ?_
        try simp only [Act.put, p1, p2, p3, p4, p5, p6]
        refine tkA 19 ?_
        try simp only [Act.put, p1, p2, p3, p4, p5, p6]
        refine wpAnyH_done (by kernel_rfl) ?_ _
        try clear hHeld
        go_wp2_with fail
        go_roundw
        case rel => exact ⟨j + 1, true, by omega, by rw [memJ_succ (by omega), HMJ.out, HZ.out]; first | rfl | (rw [Bool.false_or]; first | exact decide_eq_true (by omega) | exact decide_eq_false (by omega)), by go_num, rfl, H71.out⟩
        case measure => first | (simp [intOf]; omega) | (simp [intOf]; done)
       ·
        skip
        go_upto_region 20 with fail
        have H73 := hid H68.out.drew
        refine wp_region_held_drew (S := (fun w' => w'.cell? ⟨D54, 0, none⟩ = some (.int .i64 g0) ∧ w'.cell? ⟨D54, 1, none⟩ = some (.int .i64 g1) ∧ w'.cell? ⟨D54, 2, none⟩ = some (.int .i64 g2) ∧ w'.cell? ⟨D54, 3, none⟩ = some (.int .i64 g3) ∧ w'.cell? ⟨g9, j, none⟩ = some (.int .i64 z))) (by kernel_rfl) ⟨H73.out.cell 0 rfl 0 rfl, H73.out.cell 0 rfl 1 rfl, H73.out.cell 0 rfl 2 rfl, H73.out.cell 0 rfl 3 rfl, (by have h9 := (H73.out.get 1 rfl (j := j) (by omega)).1; rw [HZ.out] at h9; exact h9)⟩ (fun hHeld => ?_)
        generalize u67.drew = k74 at *
        refine tkA 0 ?_
        try simp only [Act.put, p1, p2, p3, p4, p5, p6]
        refine tkA 1 ?_
        try simp only [Act.put, p1, p2, p3, p4, p5, p6]
        refine tkA 2 ?_
        try simp only [Act.put, p1, p2, p3, p4, p5, p6]
        refine tkA 3 ?_
        try simp only [Act.put, p1, p2, p3, p4, p5, p6]
        refine tkA 4 ?_
        try simp only [Act.put, p1, p2, p3, p4, p5, p6]
        refine tkA 5 ?_
        try simp only [Act.put, p1, p2, p3, p4, p5, p6]
        refine tkA 6 ?_
        try simp only [Act.put, p1, p2, p3, p4, p5, p6]
        refine tkA 7 ?_
        try simp only [Act.put, p1, p2, p3, p4, p5, p6]
        refine tkA 8 ?_
        try simp only [Act.put, p1, p2, p3, p4, p5, p6]
        refine tkA 9 ?_
        try simp only [Act.put, p1, p2, p3, p4, p5, p6]
        refine tkA 10 ?_
        try simp only [Act.put, p1, p2, p3, p4, p5, p6]
        refine tkA 11 ?_
        try simp only [Act.put, p1, p2, p3, p4, p5, p6]
        refine tkA 12 ?_
        try simp only [Act.put, p1, p2, p3, p4, p5, p6]
        refine tkA 13 ?_
        try simp only [Act.put, p1, p2, p3, p4, p5, p6]
        refine tkA 14 ?_
        try simp only [Act.put, p1, p2, p3, p4, p5, p6]
        refine tkA 15 ?_
        try simp only [Act.put, p1, p2, p3, p4, p5, p6]
        refine tkA 16 ?_
        try simp only [Act.put, p1, p2, p3, p4, p5, p6]
        refine tkA 17 ?_
        try simp only [Act.put, p1, p2, p3, p4, p5, p6]
        refine tkA 18 ?_
        try simp only [Act.put, p1, p2, p3, p4, p5, p6]
        refine tkA 19 ?_
        try simp only [Act.put, p1, p2, p3, p4, p5, p6]
        refine wpAnyH_done (by kernel_rfl) ?_ _
        try clear hHeld
        go_wp2_with fail
        go_roundw
        case rel => exact ⟨j + 1, false, by omega, by rw [memJ_succ (by omega), HMJ.out, HZ.out]; first | rfl | (rw [Bool.false_or]; first | exact decide_eq_true (by omega) | exact decide_eq_false (by omega)), by go_num, rfl, H73.out⟩
        case measure => first | (simp [intOf]; omega) | (simp [intOf]; done)
      ·
       skip
       have hq1' : ¬ (g1 ≤ z) := hq1
       go_upto_region 20 with fail
       have H75 := hid H68.out.drew
       refine wp_region_held_drew (S := (fun w' => w'.cell? ⟨D54, 0, none⟩ = some (.int .i64 g0) ∧ w'.cell? ⟨D54, 1, none⟩ = some (.int .i64 g1) ∧ w'.cell? ⟨D54, 2, none⟩ = some (.int .i64 g2) ∧ w'.cell? ⟨D54, 3, none⟩ = some (.int .i64 g3) ∧ w'.cell? ⟨g9, j, none⟩ = some (.int .i64 z))) (by kernel_rfl) ⟨H75.out.cell 0 rfl 0 rfl, H75.out.cell 0 rfl 1 rfl, H75.out.cell 0 rfl 2 rfl, H75.out.cell 0 rfl 3 rfl, (by have h9 := (H75.out.get 1 rfl (j := j) (by omega)).1; rw [HZ.out] at h9; exact h9)⟩ (fun hHeld => ?_)
       generalize u67.drew = k76 at *
       refine tkA 0 ?_
       try simp only [Act.put, p1, p2, p3, p4, p5, p6]
       refine tkA 1 ?_
       try simp only [Act.put, p1, p2, p3, p4, p5, p6]
       refine tkA 2 ?_
       try simp only [Act.put, p1, p2, p3, p4, p5, p6]
       refine tkA 3 ?_
       try simp only [Act.put, p1, p2, p3, p4, p5, p6]
       refine tkA 4 ?_
       try simp only [Act.put, p1, p2, p3, p4, p5, p6]
       refine tkA 5 ?_
       try simp only [Act.put, p1, p2, p3, p4, p5, p6]
       refine tkA 6 ?_
       try simp only [Act.put, p1, p2, p3, p4, p5, p6]
       refine tkA 7 ?_
       try simp only [Act.put, p1, p2, p3, p4, p5, p6]
       refine tkA 8 ?_
       try simp only [Act.put, p1, p2, p3, p4, p5, p6]
       refine tkA 9 ?_
       try simp only [Act.put, p1, p2, p3, p4, p5, p6]
       refine tkU 10 ?_
       try simp only [Act.put, p1, p2, p3, p4, p5, p6]
       refine tkU 11 ?_
       try simp only [Act.put, p1, p2, p3, p4, p5, p6]
       refine tkU 12 ?_
       try simp only [Act.put, p1, p2, p3, p4, p5, p6]
       refine tkU 13 ?_
       try simp only [Act.put, p1, p2, p3, p4, p5, p6]
       refine tkU 14 ?_
       try simp only [Act.put, p1, p2, p3, p4, p5, p6]
       refine tkU 15 ?_
       try simp only [Act.put, p1, p2, p3, p4, p5, p6]
       refine tkU 16 ?_
       try simp only [Act.put, p1, p2, p3, p4, p5, p6]
       refine tkA 17 ?_
       try simp only [Act.put, p1, p2, p3, p4, p5, p6]
       refine tkA 18 ?_
       try simp only [Act.put, p1, p2, p3, p4, p5, p6]
       refine tkA 19 ?_
       try simp only [Act.put, p1, p2, p3, p4, p5, p6]
       refine wpAnyH_done (by kernel_rfl) ?_ _
       try clear hHeld
       go_wp2_with fail
       go_roundw
       case rel => exact ⟨j + 1, false, by omega, by rw [memJ_succ (by omega), HMJ.out, HZ.out]; first | rfl | (rw [Bool.false_or]; first | exact decide_eq_true (by omega) | exact decide_eq_false (by omega)), by go_num, rfl, H75.out⟩
       case measure => first | (simp [intOf]; omega) | (simp [intOf]; done)
    ·
     skip
     have hjn' : ¬ ((j : Int) < l47.length) := by omega
     have hHM2 := HMJ.out
     rw [show j = l47.length by omega, memJ_all] at hHM2
     obtain ⟨mc, hbmc⟩ : ∃ b, mb = b := ⟨_, rfl⟩
     rw [hbmc] at hHM2 ⊢
     have HM2 := hid hHM2
     clear hHM2 HMJ hbmc
     go_upto_region 21 with fail
     cases ma with
     | true =>
      cases mc with
      | true =>
       go_wp2_with fail
       refine (has16_any _ _ _ l37 _ _ (H68.out.slc 3 rfl)).mono ?_
       rintro e w77 ⟨rfl, hb⟩
       have H78 := hid (H68.out.call hb)
       clear hb
       rw [show hasL l37 (IN : Int) = true from by rw [← HNl37.out, tl_has HIN.out, HNl43.out, HNl47.out, HG0.out, HG1.out, HG2.out, HG3.out, HM1.out, HM2.out]; rfl]
       go_wp2_with fail
       refine (sane16 _).mono ?_
       rintro e w79 ⟨rfl, hb⟩
       have H80 := hid (H78.out.call hb)
       clear hb
       go_wp2_with fail
       go_ret
       exact ⟨rfl, by first | exact H80.out.below | exact H80.out.below'⟩
      | false =>
       go_wp2_with fail
       refine (has16_any _ _ _ l37 _ _ (H68.out.slc 3 rfl)).mono ?_
       rintro e w81 ⟨rfl, hb⟩
       have H82 := hid (H68.out.call hb)
       clear hb
       rw [show hasL l37 (IN : Int) = false from by rw [← HNl37.out, tl_has HIN.out, HNl43.out, HNl47.out, HG0.out, HG1.out, HG2.out, HG3.out, HM1.out, HM2.out]; rfl]
       go_wp2_with fail
       refine (sane16 _).mono ?_
       rintro e w83 ⟨rfl, hb⟩
       have H84 := hid (H82.out.call hb)
       clear hb
       go_wp2_with fail
       go_ret
       exact ⟨rfl, by first | exact H84.out.below | exact H84.out.below'⟩
     | false =>
      cases mc with
      | true =>
       go_wp2_with fail
       refine (has16_any _ _ _ l37 _ _ (H68.out.slc 3 rfl)).mono ?_
       rintro e w85 ⟨rfl, hb⟩
       have H86 := hid (H68.out.call hb)
       clear hb
       rw [show hasL l37 (IN : Int) = false from by rw [← HNl37.out, tl_has HIN.out, HNl43.out, HNl47.out, HG0.out, HG1.out, HG2.out, HG3.out, HM1.out, HM2.out]; rfl]
       go_wp2_with fail
       refine (sane16 _).mono ?_
       rintro e w87 ⟨rfl, hb⟩
       have H88 := hid (H86.out.call hb)
       clear hb
       go_wp2_with fail
       go_ret
       exact ⟨rfl, by first | exact H88.out.below | exact H88.out.below'⟩
      | false =>
       go_wp2_with fail
       refine (has16_any _ _ _ l37 _ _ (H68.out.slc 3 rfl)).mono ?_
       rintro e w89 ⟨rfl, hb⟩
       have H90 := hid (H68.out.call hb)
       clear hb
       rw [show hasL l37 (IN : Int) = false from by rw [← HNl37.out, tl_has HIN.out, HNl43.out, HNl47.out, HG0.out, HG1.out, HG2.out, HG3.out, HM1.out, HM2.out]; rfl]
       go_wp2_with fail
       refine (sane16 _).mono ?_
       rintro e w91 ⟨rfl, hb⟩
       have H92 := hid (H90.out.call hb)
       clear hb
       go_wp2_with fail
       go_ret
       exact ⟨rfl, by first | exact H92.out.below | exact H92.out.below'⟩
end Go.Proofs.Ytlidacfokgdlgaa
