/-
 The walk of FootprintGrows: more output columns never need fewer source columns; two ranges need together what their union needs; needed columns are ascending.
-/
import Derived.Test.YtlidacfokgdlgaaSane16
import Derived.Test.YtlidacfokgdlgaaStTi
import Derived.Test.YtlidacfokgdlgaaStGr
import Derived.Test.YtlidacfokgdlgaaStage16
import Derived.Test.YtlidacfokgdlgaaKX
import Derived.Test.YtlidacfokgdlgaaKH
import Derived.Test.YtlidacfokgdlgaaKG
namespace Go.Proofs.Ytlidacfokgdlgaa
open Go.RowKit
attribute [local go_sem ↓] Go.wp_at_zero Go.wp_at_succ
set_option linter.unusedVariables false
set_option linter.unusedSimpArgs false

set_option maxRecDepth 100000 in
set_option maxHeartbeats 12800000 in
theorem walk_FootprintGrows (a : Option Addr) (n c : Nat) (zs : List Int) (ia : Int) (W : World) (hr : RowIn .i64 W a n c zs) (_ : I64 ia) :
  Calls Try.prog 4 #[.slice a n c, .int .i64 ia] W fun e w' => e = .returned (.bool true) ∧ Below W.heap.size W w' := by
 obtain ⟨B, hB⟩ : ∃ B, W.heap.size = B := ⟨_, rfl⟩
 have HI0 := hid (St.init hB)
 have HN := hid (nearRow hr hB)
 have HR := hid hr
 clear hr
 go_enter Try.func4, Try.ntmps4
 go_wp2_with fail
 obtain ⟨K1, hK1⟩ : ∃ D, W.heap.size = D := ⟨_, rfl⟩
 refine (newB_any B _ _ _ _ _ HR.out.len (HI0.out.oldRow HR.out.row) HN.out HI0.out.size).mono ?_
 rintro e w2 ⟨rfl, ht, hb, hs⟩
 rw [hK1] at ht ⊢
 have H3 := hid (HI0.out.newTape ht hb hK1)
 clear ht hb hs hK1
 go_wp2_with fail
 refine (nextB_any B K1 _ _ (by omega) (H3.out.tapeAt 0 rfl)).mono ?_
 rintro e w5 ⟨x4, rfl, x4a, x4b, htn, hgn, hsn⟩
 have H6 := hid (H3.out.next 0 rfl htn hgn)
 clear htn hgn hsn
 go_wp2_with fail
 refine (nextB_any B K1 _ _ (by omega) (H6.out.tapeAt 0 rfl)).mono ?_
 rintro e w8 ⟨x7, rfl, x7a, x7b, htn, hgn, hsn⟩
 have H9 := hid (H6.out.next 0 rfl htn hgn)
 clear htn hgn hsn
 go_upto_region 3 with fail
 obtain ⟨w9, hw9⟩ : ∃ z, 1 + x4 = z := ⟨_, rfl⟩
 simp only [hw9]
 obtain ⟨w9a, w9b⟩ : 1 ≤ w9 ∧ w9 ≤ 9 := by omega
 clear hw9
 go_wp2_with fail
 refine (stage16_any K1 w9 (1 + x7) (by omega) (by omega) (show St B W [.tape K1] [] _ from H9.out.pick [0] rfl (by decide))).mono ?_
 rintro e w11 ⟨⟨kd10, sa10, sb10, bar10, ep10, ef10, kw10, kh10, wa10, wc10, wl10, ra10, rc10, rl10, ca10, cc10, cl10, sh10, sh210, xa10, xn10, xc10, xp10, ya10, yn10, yc10, yp10, bins10, oa10, on10, oc10, ol10, mx10⟩, R13, rfl, ⟨ln10_0, ln10_1, ln10_2, ln10_3, ln10_4, ln10_5⟩, hqx, hqy, hst9⟩
 simp only at ln10_0 ln10_1 ln10_2 ln10_3 ln10_4 ln10_5 hqx hqy
 have H12 := hid (show St B W [.arr (68) 2 (.slice xa10 xn10 xc10) xn10 (tapV xp10), .arr (68) 2 (.slice ya10 yn10 yc10) yn10 (tapV yp10), .own (.slice wa10 wl10.length wc10) wl10, .own (.slice ra10 rl10.length rc10) rl10, .own (.slice ca10 cl10.length cc10) cl10, .arr (70) 2 (.slice oa10 on10 oc10) on10 (prV ol10), .tape K1] R13 w11 from hst9)
 clear hst9
 have HQxp10 := hid hqx
 have HQyp10 := hid hqy
 clear hqx hqy
 obtain ⟨A10, hA10⟩ : ∃ z : Array Value, Sg.val ⟨kd10, sa10, sb10, bar10, ep10, ef10, kw10, kh10, wa10, wc10, wl10, ra10, rc10, rl10, ca10, cc10, cl10, sh10, sh210, xa10, xn10, xc10, xp10, ya10, yn10, yc10, yp10, bins10, oa10, on10, oc10, ol10, mx10⟩ = z := ⟨_, rfl⟩
 rw [hA10]
 have HVA10 := hid hA10.symm
 have HA10 := hid (show A10 = #[.int .i64 kd10, .int .i64 sa10, .int .i64 sb10, .bool bar10, .int .i64 ep10, .int .i64 ef10, .int .i64 kw10, .int .i64 kh10, .slice wa10 wl10.length wc10, .slice ra10 rl10.length rc10, .slice ca10 cl10.length cc10, .int .i64 sh10, .int .i64 sh210, .slice xa10 xn10 xc10, .slice ya10 yn10 yc10, .int .i64 bins10, .slice oa10 on10 oc10, .int .i64 mx10] from hA10.symm)
 clear hA10
 obtain ⟨D14, hD14⟩ : ∃ D, w11.heap.size = D := ⟨_, rfl⟩
 have H15 := hid (show St B W [.cells D14 #[.int .i64 0, .int .i64 0, .int .i64 0, .bool false, .int .i64 0, .int .i64 0, .int .i64 0, .int .i64 0, .slice none 0 0, .slice none 0 0, .slice none 0 0, .int .i64 0, .int .i64 0, .slice none 0 0, .slice none 0 0, .int .i64 0, .slice none 0 0, .int .i64 0] 33, .arr (68) 2 (.slice xa10 xn10 xc10) xn10 (tapV xp10), .arr (68) 2 (.slice ya10 yn10 yc10) yn10 (tapV yp10), .own (.slice wa10 wl10.length wc10) wl10, .own (.slice ra10 rl10.length rc10) rl10, .own (.slice ca10 cl10.length cc10) cl10, .arr (70) 2 (.slice oa10 on10 oc10) on10 (prV ol10), .tape K1] R13 (w11.alloc (.cells #[.int .i64 0, .int .i64 0, .int .i64 0, .bool false, .int .i64 0, .int .i64 0, .int .i64 0, .int .i64 0, .slice none 0 0, .slice none 0 0, .slice none 0 0, .int .i64 0, .int .i64 0, .slice none 0 0, .slice none 0 0, .int .i64 0, .slice none 0 0, .int .i64 0] 33)) from (H12.out.alloc #[.int .i64 0, .int .i64 0, .int .i64 0, .bool false, .int .i64 0, .int .i64 0, .int .i64 0, .int .i64 0, .slice none 0 0, .slice none 0 0, .slice none 0 0, .int .i64 0, .int .i64 0, .slice none 0 0, .slice none 0 0, .int .i64 0, .slice none 0 0, .int .i64 0] 33 hD14))
 go_upto_region 4 with (refine storeArm (H15.out.rowAt 0 rfl) (cs' := A10) (by rw [HA10.out]; first | rfl | kernel_rfl) (by rw [HA10.out]; first | rfl | kernel_rfl) (by rw [HA10.out]; first | rfl | kernel_rfl) (by rfl) (by rfl) (by rfl) ?_)
 clear H15
 have H16 := hid (show St B W [.cells D14 A10 33, .arr (68) 2 (.slice xa10 xn10 xc10) xn10 (tapV xp10), .arr (68) 2 (.slice ya10 yn10 yc10) yn10 (tapV yp10), .own (.slice wa10 wl10.length wc10) wl10, .own (.slice ra10 rl10.length rc10) rl10, .own (.slice ca10 cl10.length cc10) cl10, .arr (70) 2 (.slice oa10 on10 oc10) on10 (prV ol10), .tape K1] R13 ((w11.alloc (.cells #[.int .i64 0, .int .i64 0, .int .i64 0, .bool false, .int .i64 0, .int .i64 0, .int .i64 0, .int .i64 0, .slice none 0 0, .slice none 0 0, .slice none 0 0, .int .i64 0, .int .i64 0, .slice none 0 0, .slice none 0 0, .int .i64 0, .slice none 0 0, .int .i64 0] 33)).setRow D14 A10) from ((H12.out.alloc #[.int .i64 0, .int .i64 0, .int .i64 0, .bool false, .int .i64 0, .int .i64 0, .int .i64 0, .int .i64 0, .slice none 0 0, .slice none 0 0, .slice none 0 0, .int .i64 0, .int .i64 0, .slice none 0 0, .slice none 0 0, .int .i64 0, .slice none 0 0, .int .i64 0] 33 hD14).setRow 0 rfl A10))
 first | refine gen_code H16.out ?_ | refine gen_list H16.out ?_ | refine gen_calls H16.out ?_
 intro w17 hG
 clear H16
 have H16 := hid hG
 clear hG
 clear hD14
 go_wp2_with fail
 refine (nextB_any B K1 _ _ (by omega) (H16.out.tapeAt 7 rfl)).mono ?_
 rintro e w19 ⟨x18, rfl, x18a, x18b, htn, hgn, hsn⟩
 have H20 := hid (H16.out.next 7 rfl htn hgn)
 clear htn hgn hsn
 go_wp2_with fail
 refine (nextB_any B K1 _ _ (by omega) (H20.out.tapeAt 7 rfl)).mono ?_
 rintro e w22 ⟨x21, rfl, x21a, x21b, htn, hgn, hsn⟩
 have H23 := hid (H20.out.next 7 rfl htn hgn)
 clear htn hgn hsn
 go_wp2_with fail
 refine (mod_any _ _ _ (by omega) (by omega)).mono ?_
 rintro e w24 ⟨rfl, hsw⟩
 have hsw2 : w22 = w24 := by first | exact hsw | exact hsw.symm
 clear hsw
 subst hsw2
 obtain ⟨md25, hmd25⟩ : ∃ xx', ia % (x18 + x21 - x18 + 1) = xx' := ⟨_, rfl⟩
 rw [hmd25]
 have HNmd25 := hid hmd25
 clear hmd25
 obtain ⟨md25a, md25b⟩ : 0 ≤ md25 ∧ md25 < x18 + x21 - x18 + 1 := by rw [← HNmd25.out]; exact ⟨Int.emod_nonneg _ (by omega), Int.emod_lt_of_pos _ (by omega)⟩
 go_upto_region 7 with fail
 obtain ⟨c9, hc9⟩ : ∃ z, x18 + x21 = z := ⟨_, rfl⟩
 simp only [hc9]
 obtain ⟨b9, hb9⟩ : ∃ z, x18 + md25 = z := ⟨_, rfl⟩
 simp only [hb9]
 obtain ⟨ab1, ab2, ab3, ab4⟩ : 0 ≤ x18 ∧ x18 ≤ b9 ∧ b9 ≤ c9 ∧ c9 ≤ 12 := by omega
 clear hb9 hc9
 go_upto_region 7 with fail
 have H26 := hid H23.out.drew
 refine wp_region_held_drew (S := (fun w' => (Instr.loadAt 33 (.pointer (some ⟨D14, 0, none⟩))).run Try.prog w' = .ok (.agg A10) w')) (by kernel_rfl) (H26.out.loadStg 0 rfl (by rw [HA10.out]; rfl)) (fun hHeld => ?_)
 generalize w22.drew = k27 at *
 refine tkA 0 (v := .agg A10) ?_ (hy := fun wS hSw => loadExec hSw (by rfl))
 try simp only [Act.put, p1, p2, p3, p4, p5, p6]
 refine tkA 1 ?_
 try simp only [Act.put, p1, p2, p3, p4, p5, p6]
 refine tkA 2 ?_
 try simp only [Act.put, p1, p2, p3, p4, p5, p6]
 refine tkA 3 ?_
 try simp only [Act.put, p1, p2, p3, p4, p5, p6]
 refine tkA 5 (v := .agg A10) ?_ (hy := fun wS hSw => loadExec hSw (by rfl))
 try simp only [Act.put, p1, p2, p3, p4, p5, p6]
 refine tkA 6 ?_
 try simp only [Act.put, p1, p2, p3, p4, p5, p6]
 refine tkA 7 ?_
 try simp only [Act.put, p1, p2, p3, p4, p5, p6]
 refine tkA 8 ?_
 try simp only [Act.put, p1, p2, p3, p4, p5, p6]
 refine tkA 10 (v := .agg A10) ?_ (hy := fun wS hSw => loadExec hSw (by rfl))
 try simp only [Act.put, p1, p2, p3, p4, p5, p6]
 refine tkA 11 ?_
 try simp only [Act.put, p1, p2, p3, p4, p5, p6]
 refine tkA 12 ?_
 try simp only [Act.put, p1, p2, p3, p4, p5, p6]
 refine tkA 13 ?_
 try simp only [Act.put, p1, p2, p3, p4, p5, p6]
 refine wpAnyH_ready (rs := [4]) (by kernel_rfl) (by simp) (AllReadyH.cons (o := _) rfl (fun K hK => ?_) AllReadyH.nil)
 go_simp
 go_at_call 12
 refine (columns_A HA10.out (tapD xp10) (tapD yp10) _ _ _ _ (H26.out.taps 1 rfl HQxp10.out) (H26.out.taps 2 rfl HQyp10.out)).mono ?_
 rintro e w28 ⟨v29, rfl, ho, hb⟩
 obtain ⟨l30, hl30⟩ : ∃ xx', stCol kd10 sb10 ep10 ef10 kw10 kh10 wl10.length rl10.length cl10.length sh10 sh210 xn10 yn10 bins10 on10 mx10 (tapD xp10) (tapD yp10) w9 x18 c9 = xx' := ⟨_, rfl⟩
 rw [hl30] at ho
 have HNl30 := hid hl30
 clear hl30
 have H31 := hid (H26.out.grow hb ho)
 obtain ⟨v29a, v29c, rfl, _⟩ := ho.slc
 clear ho hb
 refine hK.out _ _ ?_ (fun hHeld2 => ?_)
 focus ((try dsimp only); (exact H31.out.loadStg 1 rfl (by rw [HA10.out]; rfl)))
 clear hK K
 try simp only [Act.put, p1, p2, p3, p4, p5, p6]
 clear hHeld
 have hHeld := hHeld2
 clear hHeld2
 refine wpAnyH_ready (rs := [9]) (by kernel_rfl) (by simp) (AllReadyH.cons (o := _) rfl (fun K hK => ?_) AllReadyH.nil)
 go_simp
 go_at_call 12
 refine (columns_A HA10.out (tapD xp10) (tapD yp10) _ _ _ _ (H31.out.taps 2 rfl HQxp10.out) (H31.out.taps 3 rfl HQyp10.out)).mono ?_
 rintro e w32 ⟨v33, rfl, ho, hb⟩
 obtain ⟨l34, hl34⟩ : ∃ xx', stCol kd10 sb10 ep10 ef10 kw10 kh10 wl10.length rl10.length cl10.length sh10 sh210 xn10 yn10 bins10 on10 mx10 (tapD xp10) (tapD yp10) w9 x18 b9 = xx' := ⟨_, rfl⟩
 rw [hl34] at ho
 have HNl34 := hid hl34
 clear hl34
 have H35 := hid (H31.out.grow hb ho)
 obtain ⟨v33a, v33c, rfl, _⟩ := ho.slc
 clear ho hb
 refine hK.out _ _ ?_ (fun hHeld2 => ?_)
 focus ((try dsimp only); (exact H35.out.loadStg 2 rfl (by rw [HA10.out]; rfl)))
 clear hK K
 try simp only [Act.put, p1, p2, p3, p4, p5, p6]
 clear hHeld
 have hHeld := hHeld2
 clear hHeld2
 refine wpAnyH_ready (rs := [14]) (by kernel_rfl) (by simp) (AllReadyH.cons (o := _) rfl (fun K hK => ?_) AllReadyH.nil)
 go_simp
 go_at_call 12
 refine (columns_A HA10.out (tapD xp10) (tapD yp10) _ _ _ _ (H35.out.taps 3 rfl HQxp10.out) (H35.out.taps 4 rfl HQyp10.out)).mono ?_
 rintro e w36 ⟨v37, rfl, ho, hb⟩
 obtain ⟨l38, hl38⟩ : ∃ xx', stCol kd10 sb10 ep10 ef10 kw10 kh10 wl10.length rl10.length cl10.length sh10 sh210 xn10 yn10 bins10 on10 mx10 (tapD xp10) (tapD yp10) w9 b9 c9 = xx' := ⟨_, rfl⟩
 rw [hl38] at ho
 have HNl38 := hid hl38
 clear hl38
 have H39 := hid (H35.out.grow hb ho)
 obtain ⟨v37a, v37c, rfl, _⟩ := ho.slc
 clear ho hb
 refine hK.out _ _ ?_ (fun hHeld2 => ?_)
 focus ((try dsimp only); (exact H39.out.loadStg 3 rfl (by rw [HA10.out]; rfl)))
 clear hK K
 try simp only [Act.put, p1, p2, p3, p4, p5, p6]
 clear hHeld
 have hHeld := hHeld2
 clear hHeld2
 refine tkA 15 ?_
 try simp only [Act.put, p1, p2, p3, p4, p5, p6]
 refine tkA 16 ?_
 try simp only [Act.put, p1, p2, p3, p4, p5, p6]
 refine tkA 17 ?_
 try simp only [Act.put, p1, p2, p3, p4, p5, p6]
 refine wpAnyH_done (by kernel_rfl) ?_ _
 try clear hHeld
 have HASC := hid (show ∀ i, i + 1 < l30.length → l30.getD i 0 < l30.getD (i + 1) 0 from by rw [← HNl30.out]; exact fun i h => stCol_asc h)
 have HSPL := hid (show ∀ v, v ∈ l30 ↔ v ∈ l34 ∨ v ∈ l38 from fun v => by rw [← HNl30.out, ← HNl34.out, ← HNl38.out]; exact stCol_split (by omega) (by omega) (by omega) (by omega))
 have hA9 : l30.length ≤ 128 := by rw [← HNl30.out]; exact stCol_len (by omega)
 have hX9 : l34.length ≤ 128 := by rw [← HNl34.out]; exact stCol_len (by omega)
 have hY9 : l38.length ≤ 128 := by rw [← HNl38.out]; exact stCol_len (by omega)
 have HBD := hid (show ∀ v, v ∈ l30 → 0 ≤ v ∧ v < w9 from by rw [← HNl30.out]; exact fun v h => stCol_mem h)
 go_wp2_with fail
 go_loopw [15] (fun i wr => ∃ j : Nat, j ≤ l30.length ∧ i = .int .i64 j ∧ St B W [.own (.slice v37a l38.length v37c) l38, .own (.slice v33a l34.length v33c) l34, .own (.slice v29a l30.length v29c) l30, .cells D14 A10 33, .arr (68) 2 (.slice xa10 xn10 xc10) xn10 (tapV xp10), .arr (68) 2 (.slice ya10 yn10 yc10) yn10 (tapV yp10), .own (.slice wa10 wl10.length wc10) wl10, .own (.slice ra10 rl10.length rc10) rl10, .own (.slice ca10 cl10.length cc10) cl10, .arr (70) 2 (.slice oa10 on10 oc10) on10 (prV ol10), .tape K1] R13 wr) (fun i _ => l30.length - (intOf i).toNat)
 case atStart => exact ⟨0, by omega, rfl, H39.out⟩
 case round =>
  obtain ⟨j, hj, rfl, hst⟩ := hrel
  obtain ⟨u40, rfl⟩ : ∃ u40 : World, u40 = wr := ⟨_, rfl⟩
  have H41 := hid hst
  clear hst
  by_cases hjn : j < l30.length
  ·
   skip
   have hjn' : (j : Int) < l30.length := by omega
   obtain ⟨g9, k9, hva⟩ := (H41.out.own 2 rfl).pos (by omega)
   injection hva with hv1 hv2 hv3
   subst hv1 hv3
   obtain ⟨z, hz⟩ : ∃ z, l30.getD j 0 = z := ⟨_, rfl⟩
   have HZ := hid hz
   have HZM := hid (show z ∈ l30 from by rw [← hz]; exact getD_in hjn)
   clear hz
   obtain ⟨hz0, hzw⟩ := HBD.out z HZM.out
   have hz0' : ¬ (z < 0) := by omega
   have hzw' : ¬ (w9 ≤ z) := by omega
   go_upto_region 11 with fail
   by_cases hj0 : 0 < j
   ·
    skip
    have hj0' : (0 : Int) < (j : Int) := by omega
    have hj1 : (1 : Int) ≤ (j : Int) := by omega
    have hjm : ((j : Int) - 1).toNat = j - 1 := by omega
    have hjl : (j : Int) - 1 < (l30.length : Int) := by omega
    have hjg : 0 ≤ (j : Int) - 1 := by omega
    have wjm : IntKind.i64.wrap ((j : Int) - 1) = (j : Int) - 1 := IntWalk.i64_in _ (by omega)
    obtain ⟨y, hy⟩ : ∃ y, l30.getD (j - 1) 0 = y := ⟨_, rfl⟩
    have hyz : y < z := by have h9 := HASC.out (j - 1) (by omega); rw [show j - 1 + 1 = j by omega, HZ.out, hy] at h9; exact h9
    have hyz' : ¬ (z ≤ y) := by omega
    have HY9 := hid hy
    clear hy
    go_upto_region 11 with fail
    have H42 := hid H41.out.drew
    refine wp_region_held_drew (S := (fun w' => w'.cell? ⟨g9, j, none⟩ = some (.int .i64 z) ∧ w'.cell? ⟨g9, j - 1, none⟩ = some (.int .i64 y))) (by kernel_rfl) ⟨(by have h9 := (H42.out.get 2 rfl (j := j) (by omega)).1; rw [HZ.out] at h9; exact h9), (by have h9 := (H42.out.get 2 rfl (j := j - 1) (by omega)).1; rw [HY9.out] at h9; exact h9)⟩ (fun hHeld => ?_)
    generalize u40.drew = k43 at *
    refine tkA 0 ?_
    try simp only [Act.put, p1, p2, p3, p4, p5, p6]
    refine tkA 1 ?_
    try simp only [Act.put, p1, p2, p3, p4, p5, p6]
    refine tkA 2 ?_
    try simp only [Act.put, p1, p2, p3, p4, p5, p6]
    refine tkA 3 ?_
    try simp only [Act.put, p1, p2, p3, p4, p5, p6]
    refine tkA 4 ?_
    try simp only [Act.put, p1, p2, p3, p4, p5, p6]
    refine tkA 5 ?_
    try simp only [Act.put, p1, p2, p3, p4, p5, p6]
    refine tkA 6 ?_
    try simp only [Act.put, p1, p2, p3, p4, p5, p6]
    refine tkA 7 ?_
    try simp only [Act.put, p1, p2, p3, p4, p5, p6]
    refine tkA 8 ?_
    try simp only [Act.put, p1, p2, p3, p4, p5, p6]
    refine tkA 9 ?_
    try simp only [Act.put, p1, p2, p3, p4, p5, p6]
    refine tkA 10 ?_
    try simp only [Act.put, p1, p2, p3, p4, p5, p6]
    refine tkA 11 ?_
    try simp only [Act.put, p1, p2, p3, p4, p5, p6]
    refine tkA 12 ?_
    try simp only [Act.put, p1, p2, p3, p4, p5, p6]
    refine tkA 13 ?_
    try simp only [Act.put, p1, p2, p3, p4, p5, p6]
    refine tkA 14 ?_
    try simp only [Act.put, p1, p2, p3, p4, p5, p6]
    refine tkA 15 ?_
    try simp only [Act.put, p1, p2, p3, p4, p5, p6]
    refine tkA 16 ?_
    try simp only [Act.put, p1, p2, p3, p4, p5, p6]
    refine tkA 17 ?_
    try simp only [Act.put, p1, p2, p3, p4, p5, p6]
    refine tkA 18 ?_
    try simp only [Act.put, p1, p2, p3, p4, p5, p6]
    refine tkA 19 ?_
    try simp only [Act.put, p1, p2, p3, p4, p5, p6]
    refine wpAnyH_ready (rs := [20]) (by kernel_rfl) (by simp) (AllReadyH.cons (o := _) rfl (fun K hK => ?_) AllReadyH.nil)
    go_simp
    go_at_call 20
    refine (has16_any _ _ _ l34 _ _ (H42.out.slc 1 rfl)).mono ?_
    rintro e w44 ⟨rfl, hb⟩
    have H45 := hid (H42.out.call hb)
    clear hb
    obtain ⟨hb9, hhb9⟩ : ∃ b, hasL l34 z = b := ⟨_, rfl⟩
    rw [hhb9]
    have HB9 := hid hhb9
    clear hhb9
    refine hK.out _ _ ?_ (fun hHeld2 => ?_)
    focus ((try dsimp only); (exact ⟨(by have h9 := (H45.out.get 2 rfl (j := j) (by omega)).1; rw [HZ.out] at h9; exact h9), (by have h9 := (H45.out.get 2 rfl (j := j - 1) (by omega)).1; rw [HY9.out] at h9; exact h9)⟩))
    clear hK K
    try simp only [Act.put, p1, p2, p3, p4, p5, p6]
    clear hHeld
    have hHeld := hHeld2
    clear hHeld2
    rcases Bool.eq_false_or_eq_true hb9 with hb | hb
    ·
     skip
     subst hb
     refine tkA 21 ?_
     try simp only [Act.put, p1, p2, p3, p4, p5, p6]
     refine tkA 22 ?_
     try simp only [Act.put, p1, p2, p3, p4, p5, p6]
     refine tkU 23 ?_
     try simp only [Act.put, p1, p2, p3, p4, p5, p6]
     refine tkU 24 ?_
     try simp only [Act.put, p1, p2, p3, p4, p5, p6]
     refine tkU 25 ?_
     try simp only [Act.put, p1, p2, p3, p4, p5, p6]
     refine tkU 26 ?_
     try simp only [Act.put, p1, p2, p3, p4, p5, p6]
     refine tkU 27 ?_
     try simp only [Act.put, p1, p2, p3, p4, p5, p6]
     refine tkU 28 ?_
     try simp only [Act.put, p1, p2, p3, p4, p5, p6]
     refine tkU 29 ?_
     try simp only [Act.put, p1, p2, p3, p4, p5, p6]
     refine tkA 30 ?_
     try simp only [Act.put, p1, p2, p3, p4, p5, p6]
     refine tkA 31 ?_
     try simp only [Act.put, p1, p2, p3, p4, p5, p6]
     refine tkA 32 ?_
     try simp only [Act.put, p1, p2, p3, p4, p5, p6]
     refine tkA 33 ?_
     try simp only [Act.put, p1, p2, p3, p4, p5, p6]
     refine tkA 34 ?_
     try simp only [Act.put, p1, p2, p3, p4, p5, p6]
     refine tkA 35 ?_
     try simp only [Act.put, p1, p2, p3, p4, p5, p6]
     refine tkA 36 ?_
     try simp only [Act.put, p1, p2, p3, p4, p5, p6]
     refine tkA 37 ?_
     try simp only [Act.put, p1, p2, p3, p4, p5, p6]
     refine tkA 38 ?_
     try simp only [Act.put, p1, p2, p3, p4, p5, p6]
     refine tkA 39 ?_
     try simp only [Act.put, p1, p2, p3, p4, p5, p6]
     refine tkA 40 ?_
     try simp only [Act.put, p1, p2, p3, p4, p5, p6]
     refine tkA 41 ?_
     try simp only [Act.put, p1, p2, p3, p4, p5, p6]
     refine tkA 42 ?_
     try simp only [Act.put, p1, p2, p3, p4, p5, p6]
     refine tkA 43 ?_
     try simp only [Act.put, p1, p2, p3, p4, p5, p6]
     refine tkA 44 ?_
     try simp only [Act.put, p1, p2, p3, p4, p5, p6]
     refine tkA 45 ?_
     try simp only [Act.put, p1, p2, p3, p4, p5, p6]
     refine tkA 46 ?_
     try simp only [Act.put, p1, p2, p3, p4, p5, p6]
     refine wpAnyH_done (by kernel_rfl) ?_ _
     try clear hHeld
     go_wp2_with fail
     go_roundw
     case rel => exact ⟨j + 1, by omega, by go_num, H45.out⟩
     case measure => first | (simp [intOf]; omega) | (simp [intOf]; done)
    ·
     skip
     subst hb
     refine tkA 21 ?_
     try simp only [Act.put, p1, p2, p3, p4, p5, p6]
     refine tkA 22 ?_
     try simp only [Act.put, p1, p2, p3, p4, p5, p6]
     refine tkA 23 ?_
     try simp only [Act.put, p1, p2, p3, p4, p5, p6]
     refine tkA 24 ?_
     try simp only [Act.put, p1, p2, p3, p4, p5, p6]
     refine tkA 25 ?_
     try simp only [Act.put, p1, p2, p3, p4, p5, p6]
     refine tkA 26 ?_
     try simp only [Act.put, p1, p2, p3, p4, p5, p6]
     refine tkA 27 ?_
     try simp only [Act.put, p1, p2, p3, p4, p5, p6]
     refine wpAnyH_ready (rs := [28]) (by kernel_rfl) (by simp) (AllReadyH.cons (o := _) rfl (fun K hK => ?_) AllReadyH.nil)
     go_simp
     go_at_call 20
     refine (has16_any _ _ _ l38 _ _ (H45.out.slc 0 rfl)).mono ?_
     rintro e w46 ⟨rfl, hb⟩
     have H47 := hid (H45.out.call hb)
     clear hb
     rw [show hasL l38 z = true from hasL_iff.2 (by rcases (HSPL.out z).1 HZM.out with h | h; exact absurd (hasL_iff.2 h) (by rw [HB9.out]; decide); exact h)]
     refine hK.out _ _ ?_ (fun hHeld2 => ?_)
     focus ((try dsimp only); (exact ⟨(by have h9 := (H47.out.get 2 rfl (j := j) (by omega)).1; rw [HZ.out] at h9; exact h9), (by have h9 := (H47.out.get 2 rfl (j := j - 1) (by omega)).1; rw [HY9.out] at h9; exact h9)⟩))
     clear hK K
     try simp only [Act.put, p1, p2, p3, p4, p5, p6]
     clear hHeld
     have hHeld := hHeld2
     clear hHeld2
     refine tkA 29 ?_
     try simp only [Act.put, p1, p2, p3, p4, p5, p6]
     refine tkA 30 ?_
     try simp only [Act.put, p1, p2, p3, p4, p5, p6]
     refine tkA 31 ?_
     try simp only [Act.put, p1, p2, p3, p4, p5, p6]
     refine tkA 32 ?_
     try simp only [Act.put, p1, p2, p3, p4, p5, p6]
     refine tkA 33 ?_
     try simp only [Act.put, p1, p2, p3, p4, p5, p6]
     refine tkA 34 ?_
     try simp only [Act.put, p1, p2, p3, p4, p5, p6]
     refine tkA 35 ?_
     try simp only [Act.put, p1, p2, p3, p4, p5, p6]
     refine tkA 36 ?_
     try simp only [Act.put, p1, p2, p3, p4, p5, p6]
     refine tkA 37 ?_
     try simp only [Act.put, p1, p2, p3, p4, p5, p6]
     refine tkA 38 ?_
     try simp only [Act.put, p1, p2, p3, p4, p5, p6]
     refine tkA 39 ?_
     try simp only [Act.put, p1, p2, p3, p4, p5, p6]
     refine tkA 40 ?_
     try simp only [Act.put, p1, p2, p3, p4, p5, p6]
     refine tkA 41 ?_
     try simp only [Act.put, p1, p2, p3, p4, p5, p6]
     refine tkA 42 ?_
     try simp only [Act.put, p1, p2, p3, p4, p5, p6]
     refine tkA 43 ?_
     try simp only [Act.put, p1, p2, p3, p4, p5, p6]
     refine tkA 44 ?_
     try simp only [Act.put, p1, p2, p3, p4, p5, p6]
     refine tkA 45 ?_
     try simp only [Act.put, p1, p2, p3, p4, p5, p6]
     refine tkA 46 ?_
     try simp only [Act.put, p1, p2, p3, p4, p5, p6]
     refine wpAnyH_done (by kernel_rfl) ?_ _
     try clear hHeld
     go_wp2_with fail
     go_roundw
     case rel => exact ⟨j + 1, by omega, by go_num, H47.out⟩
     case measure => first | (simp [intOf]; omega) | (simp [intOf]; done)
   ·
    skip
    have hj0' : ¬ ((0 : Int) < (j : Int)) := by omega
    go_upto_region 11 with fail
    have H48 := hid H41.out.drew
    refine wp_region_held_drew (S := (fun w' => w'.cell? ⟨g9, j, none⟩ = some (.int .i64 z))) (by kernel_rfl) (by have h9 := (H48.out.get 2 rfl (j := j) (by omega)).1; rw [HZ.out] at h9; exact h9) (fun hHeld => ?_)
    generalize u40.drew = k49 at *
    refine tkA 0 ?_
    try simp only [Act.put, p1, p2, p3, p4, p5, p6]
    refine tkA 1 ?_
    try simp only [Act.put, p1, p2, p3, p4, p5, p6]
    refine tkA 2 ?_
    try simp only [Act.put, p1, p2, p3, p4, p5, p6]
    refine tkU 3 ?_
    try simp only [Act.put, p1, p2, p3, p4, p5, p6]
    refine tkU 4 ?_
    try simp only [Act.put, p1, p2, p3, p4, p5, p6]
    refine tkU 5 ?_
    try simp only [Act.put, p1, p2, p3, p4, p5, p6]
    refine tkU 6 ?_
    try simp only [Act.put, p1, p2, p3, p4, p5, p6]
    refine tkU 7 ?_
    try simp only [Act.put, p1, p2, p3, p4, p5, p6]
    refine tkU 8 ?_
    try simp only [Act.put, p1, p2, p3, p4, p5, p6]
    refine tkU 9 ?_
    try simp only [Act.put, p1, p2, p3, p4, p5, p6]
    refine tkU 10 ?_
    try simp only [Act.put, p1, p2, p3, p4, p5, p6]
    refine tkU 11 ?_
    try simp only [Act.put, p1, p2, p3, p4, p5, p6]
    refine tkU 12 ?_
    try simp only [Act.put, p1, p2, p3, p4, p5, p6]
    refine tkA 13 ?_
    try simp only [Act.put, p1, p2, p3, p4, p5, p6]
    refine tkA 14 ?_
    try simp only [Act.put, p1, p2, p3, p4, p5, p6]
    refine tkA 15 ?_
    try simp only [Act.put, p1, p2, p3, p4, p5, p6]
    refine tkA 16 ?_
    try simp only [Act.put, p1, p2, p3, p4, p5, p6]
    refine tkA 17 ?_
    try simp only [Act.put, p1, p2, p3, p4, p5, p6]
    refine tkA 18 ?_
    try simp only [Act.put, p1, p2, p3, p4, p5, p6]
    refine tkA 19 ?_
    try simp only [Act.put, p1, p2, p3, p4, p5, p6]
    refine wpAnyH_ready (rs := [20]) (by kernel_rfl) (by simp) (AllReadyH.cons (o := _) rfl (fun K hK => ?_) AllReadyH.nil)
    go_simp
    go_at_call 20
    refine (has16_any _ _ _ l34 _ _ (H48.out.slc 1 rfl)).mono ?_
    rintro e w50 ⟨rfl, hb⟩
    have H51 := hid (H48.out.call hb)
    clear hb
    obtain ⟨hb9, hhb9⟩ : ∃ b, hasL l34 z = b := ⟨_, rfl⟩
    rw [hhb9]
    have HB9 := hid hhb9
    clear hhb9
    refine hK.out _ _ ?_ (fun hHeld2 => ?_)
    focus ((try dsimp only); (exact (by have h9 := (H51.out.get 2 rfl (j := j) (by omega)).1; rw [HZ.out] at h9; exact h9)))
    clear hK K
    try simp only [Act.put, p1, p2, p3, p4, p5, p6]
    clear hHeld
    have hHeld := hHeld2
    clear hHeld2
    rcases Bool.eq_false_or_eq_true hb9 with hb | hb
    ·
     skip
     subst hb
     refine tkA 21 ?_
     try simp only [Act.put, p1, p2, p3, p4, p5, p6]
     refine tkA 22 ?_
     try simp only [Act.put, p1, p2, p3, p4, p5, p6]
     refine tkU 23 ?_
     try simp only [Act.put, p1, p2, p3, p4, p5, p6]
     refine tkU 24 ?_
     try simp only [Act.put, p1, p2, p3, p4, p5, p6]
     refine tkU 25 ?_
     try simp only [Act.put, p1, p2, p3, p4, p5, p6]
     refine tkU 26 ?_
     try simp only [Act.put, p1, p2, p3, p4, p5, p6]
     refine tkU 27 ?_
     try simp only [Act.put, p1, p2, p3, p4, p5, p6]
     refine tkU 28 ?_
     try simp only [Act.put, p1, p2, p3, p4, p5, p6]
     refine tkU 29 ?_
     try simp only [Act.put, p1, p2, p3, p4, p5, p6]
     refine tkA 30 ?_
     try simp only [Act.put, p1, p2, p3, p4, p5, p6]
     refine tkA 31 ?_
     try simp only [Act.put, p1, p2, p3, p4, p5, p6]
     refine tkA 32 ?_
     try simp only [Act.put, p1, p2, p3, p4, p5, p6]
     refine tkA 33 ?_
     try simp only [Act.put, p1, p2, p3, p4, p5, p6]
     refine tkA 34 ?_
     try simp only [Act.put, p1, p2, p3, p4, p5, p6]
     refine tkA 35 ?_
     try simp only [Act.put, p1, p2, p3, p4, p5, p6]
     refine tkA 36 ?_
     try simp only [Act.put, p1, p2, p3, p4, p5, p6]
     refine tkA 37 ?_
     try simp only [Act.put, p1, p2, p3, p4, p5, p6]
     refine tkA 38 ?_
     try simp only [Act.put, p1, p2, p3, p4, p5, p6]
     refine tkA 39 ?_
     try simp only [Act.put, p1, p2, p3, p4, p5, p6]
     refine tkA 40 ?_
     try simp only [Act.put, p1, p2, p3, p4, p5, p6]
     refine tkA 41 ?_
     try simp only [Act.put, p1, p2, p3, p4, p5, p6]
     refine tkA 42 ?_
     try simp only [Act.put, p1, p2, p3, p4, p5, p6]
     refine tkA 43 ?_
     try simp only [Act.put, p1, p2, p3, p4, p5, p6]
     refine tkA 44 ?_
     try simp only [Act.put, p1, p2, p3, p4, p5, p6]
     refine tkA 45 ?_
     try simp only [Act.put, p1, p2, p3, p4, p5, p6]
     refine tkA 46 ?_
     try simp only [Act.put, p1, p2, p3, p4, p5, p6]
     refine wpAnyH_done (by kernel_rfl) ?_ _
     try clear hHeld
     go_wp2_with fail
     go_roundw
     case rel => exact ⟨j + 1, by omega, by go_num, H51.out⟩
     case measure => first | (simp [intOf]; omega) | (simp [intOf]; done)
    ·
     skip
     subst hb
     refine tkA 21 ?_
     try simp only [Act.put, p1, p2, p3, p4, p5, p6]
     refine tkA 22 ?_
     try simp only [Act.put, p1, p2, p3, p4, p5, p6]
     refine tkA 23 ?_
     try simp only [Act.put, p1, p2, p3, p4, p5, p6]
     refine tkA 24 ?_
     try simp only [Act.put, p1, p2, p3, p4, p5, p6]
     refine tkA 25 ?_
     try simp only [Act.put, p1, p2, p3, p4, p5, p6]
     refine tkA 26 ?_
     try simp only [Act.put, p1, p2, p3, p4, p5, p6]
     refine tkA 27 ?_
     try simp only [Act.put, p1, p2, p3, p4, p5, p6]
     refine wpAnyH_ready (rs := [28]) (by kernel_rfl) (by simp) (AllReadyH.cons (o := _) rfl (fun K hK => ?_) AllReadyH.nil)
     go_simp
     go_at_call 20
     refine (has16_any _ _ _ l38 _ _ (H51.out.slc 0 rfl)).mono ?_
     rintro e w52 ⟨rfl, hb⟩
     have H53 := hid (H51.out.call hb)
     clear hb
     rw [show hasL l38 z = true from hasL_iff.2 (by rcases (HSPL.out z).1 HZM.out with h | h; exact absurd (hasL_iff.2 h) (by rw [HB9.out]; decide); exact h)]
     refine hK.out _ _ ?_ (fun hHeld2 => ?_)
     focus ((try dsimp only); (exact (by have h9 := (H53.out.get 2 rfl (j := j) (by omega)).1; rw [HZ.out] at h9; exact h9)))
     clear hK K
     try simp only [Act.put, p1, p2, p3, p4, p5, p6]
     clear hHeld
     have hHeld := hHeld2
     clear hHeld2
     refine tkA 29 ?_
     try simp only [Act.put, p1, p2, p3, p4, p5, p6]
     refine tkA 30 ?_
     try simp only [Act.put, p1, p2, p3, p4, p5, p6]
     refine tkA 31 ?_
     try simp only [Act.put, p1, p2, p3, p4, p5, p6]
     refine tkA 32 ?_
     try simp only [Act.put, p1, p2, p3, p4, p5, p6]
     refine tkA 33 ?_
     try simp only [Act.put, p1, p2, p3, p4, p5, p6]
     refine tkA 34 ?_
     try simp only [Act.put, p1, p2, p3, p4, p5, p6]
     refine tkA 35 ?_
     try simp only [Act.put, p1, p2, p3, p4, p5, p6]
     refine tkA 36 ?_
     try simp only [Act.put, p1, p2, p3, p4, p5, p6]
     refine tkA 37 ?_
     try simp only [Act.put, p1, p2, p3, p4, p5, p6]
     refine tkA 38 ?_
     try simp only [Act.put, p1, p2, p3, p4, p5, p6]
     refine tkA 39 ?_
     try simp only [Act.put, p1, p2, p3, p4, p5, p6]
     refine tkA 40 ?_
     try simp only [Act.put, p1, p2, p3, p4, p5, p6]
     refine tkA 41 ?_
     try simp only [Act.put, p1, p2, p3, p4, p5, p6]
     refine tkA 42 ?_
     try simp only [Act.put, p1, p2, p3, p4, p5, p6]
     refine tkA 43 ?_
     try simp only [Act.put, p1, p2, p3, p4, p5, p6]
     refine tkA 44 ?_
     try simp only [Act.put, p1, p2, p3, p4, p5, p6]
     refine tkA 45 ?_
     try simp only [Act.put, p1, p2, p3, p4, p5, p6]
     refine tkA 46 ?_
     try simp only [Act.put, p1, p2, p3, p4, p5, p6]
     refine wpAnyH_done (by kernel_rfl) ?_ _
     try clear hHeld
     go_wp2_with fail
     go_roundw
     case rel => exact ⟨j + 1, by omega, by go_num, H53.out⟩
     case measure => first | (simp [intOf]; omega) | (simp [intOf]; done)
  ·
   skip
   have hjn' : ¬ ((j : Int) < l30.length) := by omega
   go_wp2_with fail
   go_loopw [16] (fun i wr => ∃ j : Nat, j ≤ l34.length ∧ i = .int .i64 j ∧ St B W [.own (.slice v37a l38.length v37c) l38, .own (.slice v33a l34.length v33c) l34, .own (.slice v29a l30.length v29c) l30, .cells D14 A10 33, .arr (68) 2 (.slice xa10 xn10 xc10) xn10 (tapV xp10), .arr (68) 2 (.slice ya10 yn10 yc10) yn10 (tapV yp10), .own (.slice wa10 wl10.length wc10) wl10, .own (.slice ra10 rl10.length rc10) rl10, .own (.slice ca10 cl10.length cc10) cl10, .arr (70) 2 (.slice oa10 on10 oc10) on10 (prV ol10), .tape K1] R13 wr) (fun i _ => l34.length - (intOf i).toNat)
   case atStart => exact ⟨0, by omega, rfl, H41.out⟩
   case round =>
    obtain ⟨j, hj, rfl, hst⟩ := hrel
    obtain ⟨u54, rfl⟩ : ∃ u54 : World, u54 = wr := ⟨_, rfl⟩
    have H55 := hid hst
    clear hst
    by_cases hjn : j < l34.length
    ·
     skip
     have hjn' : (j : Int) < l34.length := by omega
     obtain ⟨g9, k9, hva⟩ := (H55.out.own 1 rfl).pos (by omega)
     injection hva with hv1 hv2 hv3
     subst hv1 hv3
     obtain ⟨z, hz⟩ : ∃ z, l34.getD j 0 = z := ⟨_, rfl⟩
     have HZ := hid hz
     have HZM := hid (show z ∈ l34 from by rw [← hz]; exact getD_in hjn)
     clear hz
     have cz := (H55.out.get 1 rfl (j := j) hjn).1
     rw [HZ.out] at cz
     go_wp2_with fail
     refine (has16_any _ _ _ l30 _ _ (H55.out.slc 2 rfl)).mono ?_
     rintro e w56 ⟨rfl, hb⟩
     have H57 := hid (H55.out.call hb)
     clear hb
     rw [show hasL l30 z = true from hasL_iff.2 ((HSPL.out z).2 (.inl HZM.out))]
     go_wp2_with fail
     go_roundw
     case rel => exact ⟨j + 1, by omega, by go_num, H57.out⟩
     case measure => first | (simp [intOf]; omega) | (simp [intOf]; done)
    ·
     skip
     have hjn' : ¬ ((j : Int) < l34.length) := by omega
     go_wp2_with fail
     go_loopw [17] (fun i wr => ∃ j : Nat, j ≤ l38.length ∧ i = .int .i64 j ∧ St B W [.own (.slice v37a l38.length v37c) l38, .own (.slice v33a l34.length v33c) l34, .own (.slice v29a l30.length v29c) l30, .cells D14 A10 33, .arr (68) 2 (.slice xa10 xn10 xc10) xn10 (tapV xp10), .arr (68) 2 (.slice ya10 yn10 yc10) yn10 (tapV yp10), .own (.slice wa10 wl10.length wc10) wl10, .own (.slice ra10 rl10.length rc10) rl10, .own (.slice ca10 cl10.length cc10) cl10, .arr (70) 2 (.slice oa10 on10 oc10) on10 (prV ol10), .tape K1] R13 wr) (fun i _ => l38.length - (intOf i).toNat)
     case atStart => exact ⟨0, by omega, rfl, H55.out⟩
     case round =>
      obtain ⟨j, hj, rfl, hst⟩ := hrel
      obtain ⟨u58, rfl⟩ : ∃ u58 : World, u58 = wr := ⟨_, rfl⟩
      have H59 := hid hst
      clear hst
      by_cases hjn : j < l38.length
      ·
       skip
       have hjn' : (j : Int) < l38.length := by omega
       obtain ⟨g9, k9, hva⟩ := (H59.out.own 0 rfl).pos (by omega)
       injection hva with hv1 hv2 hv3
       subst hv1 hv3
       obtain ⟨z, hz⟩ : ∃ z, l38.getD j 0 = z := ⟨_, rfl⟩
       have HZ := hid hz
       have HZM := hid (show z ∈ l38 from by rw [← hz]; exact getD_in hjn)
       clear hz
       have cz := (H59.out.get 0 rfl (j := j) hjn).1
       rw [HZ.out] at cz
       go_wp2_with fail
       refine (has16_any _ _ _ l30 _ _ (H59.out.slc 2 rfl)).mono ?_
       rintro e w60 ⟨rfl, hb⟩
       have H61 := hid (H59.out.call hb)
       clear hb
       rw [show hasL l30 z = true from hasL_iff.2 ((HSPL.out z).2 (.inr HZM.out))]
       go_wp2_with fail
       go_roundw
       case rel => exact ⟨j + 1, by omega, by go_num, H61.out⟩
       case measure => first | (simp [intOf]; omega) | (simp [intOf]; done)
      ·
       skip
       have hjn' : ¬ ((j : Int) < l38.length) := by omega
       go_wp2_with fail
       refine (sane16 _).mono ?_
       rintro e w62 ⟨rfl, hb⟩
       have H63 := hid (H59.out.call hb)
       clear hb
       go_wp2_with fail
       go_ret
       exact ⟨rfl, by first | exact H63.out.below | exact H63.out.below'⟩
end Go.Proofs.Ytlidacfokgdlgaa
