/-
  The walk of ResizeChecks: the errors of tables are those of the reference.
-/
import Derived.Test.YtaefdkinpaonkaaSane11
import Derived.Test.YtaefdkinpaonkaaRzChk
import Derived.Test.YtaefdkinpaonkaaTable
import Derived.Test.YtaefdkinpaonkaaTaps3
import Derived.Test.YtaefdkinpaonkaaWeights
import Derived.Test.YtaefdkinpaonkaaKX
import Derived.Test.YtaefdkinpaonkaaKA
namespace Go.Proofs.Ytaefdkinpaonkaa
open Go.RowKit
attribute [local go_sem ↓] Go.wp_at_zero Go.wp_at_succ
set_option linter.unusedVariables false
set_option linter.unusedSimpArgs false

set_option maxRecDepth 100000 in
set_option maxHeartbeats 12800000 in
theorem walk_ResizeChecks (a : Option Addr) (n c : Nat) (zs : List Int) (sw sh sm : Int) (xa : Option Addr) (xn xc : Nat) (xl : Tbl) (ya : Option Addr) (yn yc : Nat) (yl : Tbl) (s1 s2 so : Int) (W : World) (hr : RowIn .i64 W a n c zs) (_ : I64 sw) (_ : I64 sh) (_ : I64 sm) (hx : Tps W xa xn xc xl) (hy : Tps W ya yn yc yl) (_ : I64 s1) (_ : I64 s2) (_ : I64 so) :
  Calls Try.prog 3 #[.slice a n c, .agg #[.int .i64 sw, .int .i64 sh, .int .i64 sm], .slice xa xn xc, .slice ya yn yc, .int .i64 s1, .int .i64 s2, .int .i64 so] W fun e w' => e = .returned (.bool true) ∧ Below W.heap.size W w' := by
 obtain ⟨B, hB⟩ : ∃ B, W.heap.size = B := ⟨_, rfl⟩
 have HI0 := hid (St.init hB)
 have HN := hid (nearRow hr hB)
 have HR := hid hr
 clear hr
 have HXT := hid hx
 have HYT := hid hy
 clear hx hy
 go_enter Try.func3, Try.ntmps3
 go_upto_region 1 with fail
 have H1 := hid (show St B W [.cells B #[.int .i64 sw, .int .i64 sh, .int .i64 sm] 24] [] (W.alloc (.cells #[.int .i64 sw, .int .i64 sh, .int .i64 sm] 24)) from (HI0.out.alloc #[.int .i64 sw, .int .i64 sh, .int .i64 sm] 24 hB))
 first | refine gen_code H1.out ?_ | refine gen_list H1.out ?_ | refine gen_calls H1.out ?_
 intro w2 hG
 clear H1
 have H1 := hid hG
 clear hG
 go_wp2_with fail
 obtain ⟨K3, hK3⟩ : ∃ D, w2.heap.size = D := ⟨_, rfl⟩
 refine (newB_any B _ _ _ _ _ HR.out.len (H1.out.oldRow HR.out.row) HN.out H1.out.size).mono ?_
 rintro e w4 ⟨rfl, ht, hb, hs⟩
 rw [hK3] at ht ⊢
 have H5 := hid (H1.out.newTape ht hb hK3)
 clear ht hb hs hK3
 go_wp2_with fail
 go_loopw [16] (fun i wr => ∃ j : Nat, j ≤ 4 ∧ i = .int .i64 j ∧ St B W [.tape K3, .cells B #[.int .i64 sw, .int .i64 sh, .int .i64 sm] 24] [] wr) (fun i _ => 4 - (intOf i).toNat)
 case atStart => exact ⟨0, by omega, rfl, H5.out.pick [0, 1] rfl (by decide)⟩
 case round =>
  obtain ⟨j, hj, rfl, hst⟩ := hrel
  obtain ⟨u6, rfl⟩ : ∃ u6 : World, u6 = wr := ⟨_, rfl⟩
  have H7 := hid hst
  clear hst
  by_cases hj8 : j < 4
  ·skip
   have hj8' : (j : Int) < 4 := by omega
   go_wp2_with fail
   refine (nextB_any B K3 _ _ (by omega) (H7.out.tapeAt 0 rfl)).mono ?_
   rintro e w9 ⟨x8, rfl, x8a, x8b, htn, hgn, hsn⟩
   have H10 := hid (H7.out.next 0 rfl htn hgn)
   clear htn hgn hsn
   go_wp2_with fail
   refine (nextB_any B K3 _ _ (by omega) (H10.out.tapeAt 0 rfl)).mono ?_
   rintro e w12 ⟨x11, rfl, x11a, x11b, htn, hgn, hsn⟩
   have H13 := hid (H10.out.next 0 rfl htn hgn)
   clear htn hgn hsn
   obtain ⟨D14, hD14⟩ : ∃ D, w12.heap.size = D := ⟨_, rfl⟩
   go_wp2_with fail
   have H15 := hid (show St B W [.cells D14 #[.int .i64 255, .int .i64 65535, .int .i64 4294967296, .int .i64 0, .int .i64 1099511627776] 3, .tape K3, .cells B #[.int .i64 sw, .int .i64 sh, .int .i64 sm] 24] [] (w12.alloc (.cells #[.int .i64 255, .int .i64 65535, .int .i64 4294967296, .int .i64 0, .int .i64 1099511627776] 3)) from (H13.out.alloc #[.int .i64 255, .int .i64 65535, .int .i64 4294967296, .int .i64 0, .int .i64 1099511627776] 3 hD14))
   first | refine gen_code H15.out ?_ | refine gen_list H15.out ?_ | refine gen_calls H15.out ?_
   intro w16 hG
   clear H15
   have H15 := hid hG
   clear hG
   clear hD14
   refine (pickB_any B K3 _ 5 5 [255, 65535, 4294967296, 0, 1099511627776] _ (by omega) (by omega) (H15.out.tapeAt 1 rfl) (H15.out.lit 0 [255, 65535, 4294967296, 0, 1099511627776] rfl (by simp)).row (.inr ⟨_, rfl, H15.out.ne 0 1 rfl rfl (by decide) rfl rfl⟩)).mono ?_
   rintro e w18 ⟨x17, rfl, hx17, htn, hgn, hsn⟩
   have H19 := hid (H15.out.next 1 rfl htn hgn)
   clear htn hgn hsn
   clear hx17
   obtain ⟨D20, hD20⟩ : ∃ D, w18.heap.size = D := ⟨_, rfl⟩
   go_upto_region 6 with fail
   have H21 := hid (show St B W [.cells D20 #[.int .i64 (1 + x8), .int .i64 (1 + x11), .int .i64 x17] 24, .cells D14 #[.int .i64 255, .int .i64 65535, .int .i64 4294967296, .int .i64 0, .int .i64 1099511627776] 3, .tape K3, .cells B #[.int .i64 sw, .int .i64 sh, .int .i64 sm] 24] [] (w18.alloc (.cells #[.int .i64 (1 + x8), .int .i64 (1 + x11), .int .i64 x17] 24)) from (H19.out.alloc #[.int .i64 (1 + x8), .int .i64 (1 + x11), .int .i64 x17] 24 hD20))
   first | refine gen_code H21.out ?_ | refine gen_list H21.out ?_ | refine gen_calls H21.out ?_
   intro w22 hG
   clear H21
   have H21 := hid hG
   clear hG
   clear hD20
   have H23 := hid H21.out.drew
   refine wp_region_held_drew (S := (fun w' => w'.cell? ⟨D20, 0, none⟩ = some (.int .i64 (1 + x8)) ∧ w'.cell? ⟨D20, 1, none⟩ = some (.int .i64 (1 + x11)) ∧ w'.cell? ⟨D20, 2, none⟩ = some (.int .i64 x17))) (by kernel_rfl) ⟨H23.out.cell 0 rfl 0 rfl, H23.out.cell 0 rfl 1 rfl, H23.out.cell 0 rfl 2 rfl⟩ (fun hHeld => ?_)
   generalize w22.drew = k24 at *
   refine wpAnyH_take (i := 0) (oi := _) (v := ?_) rfl (by kernel_rfl) (by kernel_rfl) (by kernel_rfl) (fun _ _ _ h => h) (Or.inl ⟨by rfl, ?_⟩) (by assumption) ?_
   rotate_left
   focus (intro wS hSw; (try dsimp only at hSw); go_simp; (try with_reducible rfl))
   try simp only [Act.put, List.getElem_toArray, List.getElem_cons_zero, List.getElem_cons_succ, List.setIfInBounds_toArray, List.set_cons_zero, List.set_cons_succ]
   refine wpAnyH_take (i := 1) (oi := _) (v := ?_) rfl (by kernel_rfl) (by kernel_rfl) (by kernel_rfl) (fun _ _ _ h => h) (Or.inl ⟨by rfl, ?_⟩) (by assumption) ?_
   rotate_left
   focus (intro wS hSw; (try dsimp only at hSw); go_simp; (try with_reducible rfl))
   try simp only [Act.put, List.getElem_toArray, List.getElem_cons_zero, List.getElem_cons_succ, List.setIfInBounds_toArray, List.set_cons_zero, List.set_cons_succ]
   refine wpAnyH_take (i := 2) (oi := _) (v := ?_) rfl (by kernel_rfl) (by kernel_rfl) (by kernel_rfl) (fun _ _ _ h => h) (Or.inl ⟨by rfl, ?_⟩) (by assumption) ?_
   rotate_left
   focus (intro wS hSw; (try dsimp only at hSw); go_simp; (try with_reducible rfl))
   try simp only [Act.put, List.getElem_toArray, List.getElem_cons_zero, List.getElem_cons_succ, List.setIfInBounds_toArray, List.set_cons_zero, List.set_cons_succ]
   refine wpAnyH_take (i := 4) (oi := _) (v := ?_) rfl (by kernel_rfl) (by kernel_rfl) (by kernel_rfl) (fun _ _ _ h => h) (Or.inl ⟨by rfl, ?_⟩) (by assumption) ?_
   rotate_left
   focus (intro wS hSw; (try dsimp only at hSw); go_simp; (try with_reducible rfl))
   try simp only [Act.put, List.getElem_toArray, List.getElem_cons_zero, List.getElem_cons_succ, List.setIfInBounds_toArray, List.set_cons_zero, List.set_cons_succ]
   refine wpAnyH_take (i := 5) (oi := _) (v := ?_) rfl (by kernel_rfl) (by kernel_rfl) (by kernel_rfl) (fun _ _ _ h => h) (Or.inl ⟨by rfl, ?_⟩) (by assumption) ?_
   rotate_left
   focus (intro wS hSw; (try dsimp only at hSw); go_simp; (try with_reducible rfl))
   try simp only [Act.put, List.getElem_toArray, List.getElem_cons_zero, List.getElem_cons_succ, List.setIfInBounds_toArray, List.set_cons_zero, List.set_cons_succ]
   refine wpAnyH_take (i := 6) (oi := _) (v := ?_) rfl (by kernel_rfl) (by kernel_rfl) (by kernel_rfl) (fun _ _ _ h => h) (Or.inl ⟨by rfl, ?_⟩) (by assumption) ?_
   rotate_left
   focus (intro wS hSw; (try dsimp only at hSw); go_simp; (try with_reducible rfl))
   try simp only [Act.put, List.getElem_toArray, List.getElem_cons_zero, List.getElem_cons_succ, List.setIfInBounds_toArray, List.set_cons_zero, List.set_cons_succ]
   refine wpAnyH_ready (rs := [3]) (by kernel_rfl) (by simp) (AllReadyH.cons (o := _) rfl (fun K hK => ?_) AllReadyH.nil)
   go_simp
   go_at_call 10
   refine (table_any B K3 (1 + x8) _ (by omega) (H23.out.tapeAt 2 rfl)).mono ?_
   rintro e w25 ⟨v27, T28, rfl, hok, ho, ht, hg⟩
   obtain ⟨tp29, R30, ta33, tc34, rfl, htd, htq, hmo, hst⟩ := St.addTT H23.out (H23.out.next 2 rfl ht hg) ho
   obtain ⟨T28l0, T28l1⟩ : 1 ≤ T28.length ∧ T28.length ≤ 6 := ⟨hok.l0, hok.l1⟩
   have HOKT28 := hid hok
   have HQ31 := hid htq
   have HD32 := hid htd
   have H26 := hid hst
   clear htd htq hmo hst ho ht hg hok
   refine hK.out _ _ ?_ (fun hHeld2 => ?_)
   focus ((try dsimp only); (exact ⟨H26.out.cell 1 rfl 0 rfl, H26.out.cell 1 rfl 1 rfl, H26.out.cell 1 rfl 2 rfl⟩))
   clear hK K
   try simp only [Act.put, List.getElem_toArray, List.getElem_cons_zero, List.getElem_cons_succ, List.setIfInBounds_toArray, List.set_cons_zero, List.set_cons_succ]
   clear hHeld
   have hHeld := hHeld2
   clear hHeld2
   refine wpAnyH_ready (rs := [7]) (by kernel_rfl) (by simp) (AllReadyH.cons (o := _) rfl (fun K hK => ?_) AllReadyH.nil)
   go_simp
   go_at_call 10
   refine (table_any B K3 (1 + x11) _ (by omega) (H26.out.tapeAt 3 rfl)).mono ?_
   rintro e w35 ⟨v37, T38, rfl, hok, ho, ht, hg⟩
   obtain ⟨tp39, R40, ta43, tc44, rfl, htd, htq, hmo, hst⟩ := St.addTT H26.out (H26.out.next 3 rfl ht hg) ho
   obtain ⟨T38l0, T38l1⟩ : 1 ≤ T38.length ∧ T38.length ≤ 6 := ⟨hok.l0, hok.l1⟩
   have HOKT38 := hid hok
   have HQ41 := hid htq
   have HD42 := hid htd
   have H36 := hid hst
   have HQ45 := hid (hmo _ HQ31.out)
   clear htd htq hmo hst ho ht hg hok
   refine hK.out _ _ ?_ (fun hHeld2 => ?_)
   focus ((try dsimp only); (exact ⟨H36.out.cell 2 rfl 0 rfl, H36.out.cell 2 rfl 1 rfl, H36.out.cell 2 rfl 2 rfl⟩))
   clear hK K
   try simp only [Act.put, List.getElem_toArray, List.getElem_cons_zero, List.getElem_cons_succ, List.setIfInBounds_toArray, List.set_cons_zero, List.set_cons_succ]
   clear hHeld
   have hHeld := hHeld2
   clear hHeld2
   refine wpAnyH_take (i := 8) (oi := _) (v := ?_) rfl (by kernel_rfl) (by kernel_rfl) (by kernel_rfl) (fun _ _ _ h => h) (Or.inl ⟨by rfl, ?_⟩) (by assumption) ?_
   rotate_left
   focus (intro wS hSw; (try dsimp only at hSw); go_simp; (try with_reducible rfl))
   try simp only [Act.put, List.getElem_toArray, List.getElem_cons_zero, List.getElem_cons_succ, List.setIfInBounds_toArray, List.set_cons_zero, List.set_cons_succ]
   refine wpAnyH_take (i := 9) (oi := _) (v := ?_) rfl (by kernel_rfl) (by kernel_rfl) (by kernel_rfl) (fun _ _ _ h => h) (Or.inl ⟨by rfl, ?_⟩) (by assumption) ?_
   rotate_left
   focus (intro wS hSw; (try dsimp only at hSw); go_simp; (try with_reducible rfl))
   try simp only [Act.put, List.getElem_toArray, List.getElem_cons_zero, List.getElem_cons_succ, List.setIfInBounds_toArray, List.set_cons_zero, List.set_cons_succ]
   refine wpAnyH_done (by kernel_rfl) ?_ _
   try clear hHeld
   go_wp2_with fail
   refine (nextB_any B K3 _ _ (by omega) (H36.out.tapeAt 4 rfl)).mono ?_
   rintro e w47 ⟨x46, rfl, x46a, x46b, htn, hgn, hsn⟩
   have H48 := hid (H36.out.next 4 rfl htn hgn)
   clear htn hgn hsn
   by_cases c49 : (x46 : Int) = 3
   ·obtain ⟨c49c, c49d⟩ : (x46 : Int) ≤ 3 ∧ (3 : Int) ≤ x46 := by omega
    have c49a : ((x46 : Int) == (3)) = true := by simpa using c49
    have c49b : ((x46 : Int) != (3)) = false := by simpa using c49
    have c49h := hid c49
    clear c49
    obtain ⟨D50, hD50⟩ : ∃ D, w47.heap.size = D := ⟨_, rfl⟩
    go_wp2_with fail
    have H51 := hid (show St B W [.cells D50 #[.int .i64 0, .int .i64 257] 3, .arr (32) 2 (.slice ta43 T38.length tc44) (T38.length) (tapV tp39), .arr (32) 2 (.slice ta33 T28.length tc34) (T28.length) (tapV tp29), .cells D20 #[.int .i64 (1 + x8), .int .i64 (1 + x11), .int .i64 x17] 24, .cells D14 #[.int .i64 255, .int .i64 65535, .int .i64 4294967296, .int .i64 0, .int .i64 1099511627776] 3, .tape K3, .cells B #[.int .i64 sw, .int .i64 sh, .int .i64 sm] 24] R40 (w47.alloc (.cells #[.int .i64 0, .int .i64 257] 3)) from (H48.out.alloc #[.int .i64 0, .int .i64 257] 3 hD50))
    first | refine gen_code H51.out ?_ | refine gen_list H51.out ?_ | refine gen_calls H51.out ?_
    intro w52 hG
    clear H51
    have H51 := hid hG
    clear hG
    clear hD50
    refine (pickB_any B K3 _ 2 2 [0, 257] _ (by omega) (by omega) (H51.out.tapeAt 5 rfl) (H51.out.lit 0 [0, 257] rfl (by simp)).row (.inr ⟨_, rfl, H51.out.ne 0 5 rfl rfl (by decide) rfl rfl⟩)).mono ?_
    rintro e w54 ⟨x53, rfl, hx53, htn, hgn, hsn⟩
    have H55 := hid (H51.out.next 5 rfl htn hgn)
    clear htn hgn hsn
    clear hx53
    obtain ⟨D56, hD56⟩ : ∃ D, w54.heap.size = D := ⟨_, rfl⟩
    go_wp2_with fail
    have H57 := hid (show St B W [.cells D56 #[.int .i64 32767, .int .i64 40000, .int .i64 (-5)] 3, .cells D50 #[.int .i64 0, .int .i64 257] 3, .arr (32) 2 (.slice ta43 T38.length tc44) (T38.length) (tapV tp39), .arr (32) 2 (.slice ta33 T28.length tc34) (T28.length) (tapV tp29), .cells D20 #[.int .i64 (1 + x8), .int .i64 (1 + x11), .int .i64 x17] 24, .cells D14 #[.int .i64 255, .int .i64 65535, .int .i64 4294967296, .int .i64 0, .int .i64 1099511627776] 3, .tape K3, .cells B #[.int .i64 sw, .int .i64 sh, .int .i64 sm] 24] R40 (w54.alloc (.cells #[.int .i64 32767, .int .i64 40000, .int .i64 (-5)] 3)) from (H55.out.alloc #[.int .i64 32767, .int .i64 40000, .int .i64 (-5)] 3 hD56))
    first | refine gen_code H57.out ?_ | refine gen_list H57.out ?_ | refine gen_calls H57.out ?_
    intro w58 hG
    clear H57
    have H57 := hid hG
    clear hG
    clear hD56
    refine (pickB_any B K3 _ 3 3 [32767, 40000, (-5)] _ (by omega) (by omega) (H57.out.tapeAt 6 rfl) (H57.out.lit 0 [32767, 40000, (-5)] rfl (by simp)).row (.inr ⟨_, rfl, H57.out.ne 0 6 rfl rfl (by decide) rfl rfl⟩)).mono ?_
    rintro e w60 ⟨x59, rfl, hx59, htn, hgn, hsn⟩
    have H61 := hid (H57.out.next 6 rfl htn hgn)
    clear htn hgn hsn
    clear hx59
    obtain ⟨D62, hD62⟩ : ∃ D, w60.heap.size = D := ⟨_, rfl⟩
    have H63 := hid (show St B W [.cells (D62 + 1) #[.int .i64 x53, .slice (some ⟨D62, 0, none⟩) 1 1] 32, .cells D62 #[.int .i64 x59] 3, .cells D56 #[.int .i64 32767, .int .i64 40000, .int .i64 (-5)] 3, .cells D50 #[.int .i64 0, .int .i64 257] 3, .arr (32) 2 (.slice ta43 T38.length tc44) (T38.length) (tapV tp39), .arr (32) 2 (.slice ta33 T28.length tc34) (T28.length) (tapV tp29), .cells D20 #[.int .i64 (1 + x8), .int .i64 (1 + x11), .int .i64 x17] 24, .cells D14 #[.int .i64 255, .int .i64 65535, .int .i64 4294967296, .int .i64 0, .int .i64 1099511627776] 3, .tape K3, .cells B #[.int .i64 sw, .int .i64 sh, .int .i64 sm] 24] R40 ((w60.alloc (.cells #[.int .i64 x59] 3)).alloc (.cells #[.int .i64 x53, .slice (some ⟨D62, 0, none⟩) 1 1] 32)) from ((H61.out.alloc #[.int .i64 x59] 3 hD62).alloc #[.int .i64 x53, .slice (some ⟨D62, 0, none⟩) 1 1] 32 (by first | exact hD62 | simp [hD62])))
    go_upto_region 9 with (at_builtin; refine append_vals rfl _ _ 25 32 2 32 (.agg #[.int .i64 0, .slice none 0 0]) Try.underlying25 info_tap rfl (by decide) (by decide) rfl B _ _ _ (D62 + 1) 1 1 [.int .i64 x53, .slice (some ⟨D62, 0, none⟩) 1 1] rfl rfl rfl (H63.out.arrOfT 5 rfl) (lit_news H63.out 0 [.int .i64 x53, .slice (some ⟨D62, 0, none⟩) 1 1] rfl) (by intro u hu; simp at hu; rcases hu with rfl | rfl <;> rfl) (by omega) H63.out.size ?_; intro v65 w66 ho hg hv; have H64 := hid (H63.out.appendE 5 rfl ho hg hv); clear ho hg hv)
    clear H63
    obtain ⟨g67, c68, hva⟩ := arr_posT (H64.out.arrOfT 5 rfl) (by omega)
    subst hva
    clear hD62
    obtain ⟨hLY, hNW⟩ := H64.out.layLit 1 [x59] rfl (by simp)
    simp only [List.eraseIdx, List.length_singleton] at hLY hNW
    rw [show tapV tp29 ++ [.int .i64 x53, .slice (some ⟨D62, 0, none⟩) 1 1] = tapV (tp29 ++ [(x53, ⟨some ⟨D62, 0, none⟩, 1, 1, [x59]⟩)]) from by rw [tapV_app]; rfl] at hLY
    obtain ⟨tp70, htp70⟩ : ∃ t : List (Int × Ro), tp29 ++ [(x53, ⟨some ⟨D62, 0, none⟩, 1, 1, [x59]⟩)] = t := ⟨_, rfl⟩
    have HQ71 := hid (show TQ B (⟨some ⟨D62, 0, none⟩, 1, 1, [x59]⟩ :: R40) tp70 from by rw [← htp70]; exact HQ45.out.snoc hNW)
    have HD72 := hid (show tapD tp70 = T28 ++ [(x53, [x59])] from by rw [← htp70, tapD_app, HD32.out]; rfl)
    rw [htp70] at hLY
    have HQ73 := hid (HQ41.out.cons ⟨some ⟨D62, 0, none⟩, 1, 1, [x59]⟩)
    have H69 := hid hLY
    clear hNW hLY htp70
    obtain ⟨D74, hD74⟩ : ∃ D, w66.heap.size = D := ⟨_, rfl⟩
    go_wp2_with fail
    have H75 := hid (show St B W [.cells D74 #[.int .i64 8, .int .i64 0, .int .i64 25, .int .i64 24] 3, .cells (D62 + 1) #[.int .i64 x53, .slice (some ⟨D62, 0, none⟩) 1 1] 32, .cells D56 #[.int .i64 32767, .int .i64 40000, .int .i64 (-5)] 3, .cells D50 #[.int .i64 0, .int .i64 257] 3, .arr (32) 2 (.slice ta43 T38.length tc44) (T38.length) (tapV tp39), .arr (32) 2 (.slice (some ⟨g67, 0, none⟩) (T28.length + 1) c68) (T28.length + 1) (tapV tp70), .cells D20 #[.int .i64 (1 + x8), .int .i64 (1 + x11), .int .i64 x17] 24, .cells D14 #[.int .i64 255, .int .i64 65535, .int .i64 4294967296, .int .i64 0, .int .i64 1099511627776] 3, .tape K3, .cells B #[.int .i64 sw, .int .i64 sh, .int .i64 sm] 24] (⟨some ⟨D62, 0, none⟩, 1, 1, [x59]⟩ :: R40) (w66.alloc (.cells #[.int .i64 8, .int .i64 0, .int .i64 25, .int .i64 24] 3)) from (H69.out.alloc #[.int .i64 8, .int .i64 0, .int .i64 25, .int .i64 24] 3 hD74))
    first | refine gen_code H75.out ?_ | refine gen_list H75.out ?_ | refine gen_calls H75.out ?_
    intro w76 hG
    clear H75
    have H75 := hid hG
    clear hG
    clear hD74
    refine (pickB_any B K3 _ 4 4 [8, 0, 25, 24] _ (by omega) (by omega) (H75.out.tapeAt 8 rfl) (H75.out.lit 0 [8, 0, 25, 24] rfl (by simp)).row (.inr ⟨_, rfl, H75.out.ne 0 8 rfl rfl (by decide) rfl rfl⟩)).mono ?_
    rintro e w78 ⟨x77, rfl, hx77, htn, hgn, hsn⟩
    have H79 := hid (H75.out.next 8 rfl htn hgn)
    clear htn hgn hsn
    clear hx77
    obtain ⟨D80, hD80⟩ : ∃ D, w78.heap.size = D := ⟨_, rfl⟩
    go_wp2_with fail
    have H81 := hid (show St B W [.cells D80 #[.int .i64 8, .int .i64 (-1), .int .i64 0] 3, .cells D74 #[.int .i64 8, .int .i64 0, .int .i64 25, .int .i64 24] 3, .cells (D62 + 1) #[.int .i64 x53, .slice (some ⟨D62, 0, none⟩) 1 1] 32, .cells D56 #[.int .i64 32767, .int .i64 40000, .int .i64 (-5)] 3, .cells D50 #[.int .i64 0, .int .i64 257] 3, .arr (32) 2 (.slice ta43 T38.length tc44) (T38.length) (tapV tp39), .arr (32) 2 (.slice (some ⟨g67, 0, none⟩) (T28.length + 1) c68) (T28.length + 1) (tapV tp70), .cells D20 #[.int .i64 (1 + x8), .int .i64 (1 + x11), .int .i64 x17] 24, .cells D14 #[.int .i64 255, .int .i64 65535, .int .i64 4294967296, .int .i64 0, .int .i64 1099511627776] 3, .tape K3, .cells B #[.int .i64 sw, .int .i64 sh, .int .i64 sm] 24] (⟨some ⟨D62, 0, none⟩, 1, 1, [x59]⟩ :: R40) (w78.alloc (.cells #[.int .i64 8, .int .i64 (-1), .int .i64 0] 3)) from (H79.out.alloc #[.int .i64 8, .int .i64 (-1), .int .i64 0] 3 hD80))
    first | refine gen_code H81.out ?_ | refine gen_list H81.out ?_ | refine gen_calls H81.out ?_
    intro w82 hG
    clear H81
    have H81 := hid hG
    clear hG
    clear hD80
    refine (pickB_any B K3 _ 3 3 [8, (-1), 0] _ (by omega) (by omega) (H81.out.tapeAt 9 rfl) (H81.out.lit 0 [8, (-1), 0] rfl (by simp)).row (.inr ⟨_, rfl, H81.out.ne 0 9 rfl rfl (by decide) rfl rfl⟩)).mono ?_
    rintro e w84 ⟨x83, rfl, hx83, htn, hgn, hsn⟩
    have H85 := hid (H81.out.next 9 rfl htn hgn)
    clear htn hgn hsn
    clear hx83
    go_upto_region 10 with fail
    have H86 := hid H85.out.drew
    refine wp_region_held_drew (S := (fun w' => w'.cell? ⟨D20, 0, none⟩ = some (.int .i64 (1 + x8)) ∧ w'.cell? ⟨D20, 1, none⟩ = some (.int .i64 (1 + x11)) ∧ w'.cell? ⟨D20, 2, none⟩ = some (.int .i64 x17))) (by kernel_rfl) ⟨H86.out.cell 7 rfl 0 rfl, H86.out.cell 7 rfl 1 rfl, H86.out.cell 7 rfl 2 rfl⟩ (fun hHeld => ?_)
    generalize w84.drew = k87 at *
    refine wpAnyH_take (i := 0) (oi := _) (v := ?_) rfl (by kernel_rfl) (by kernel_rfl) (by kernel_rfl) (fun _ _ _ h => h) (Or.inl ⟨by rfl, ?_⟩) (by assumption) ?_
    rotate_left
    focus (intro wS hSw; (try dsimp only at hSw); go_simp; (try with_reducible rfl))
    try simp only [Act.put, List.getElem_toArray, List.getElem_cons_zero, List.getElem_cons_succ, List.setIfInBounds_toArray, List.set_cons_zero, List.set_cons_succ]
    refine wpAnyH_take (i := 1) (oi := _) (v := ?_) rfl (by kernel_rfl) (by kernel_rfl) (by kernel_rfl) (fun _ _ _ h => h) (Or.inl ⟨by rfl, ?_⟩) (by assumption) ?_
    rotate_left
    focus (intro wS hSw; (try dsimp only at hSw); go_simp; (try with_reducible rfl))
    try simp only [Act.put, List.getElem_toArray, List.getElem_cons_zero, List.getElem_cons_succ, List.setIfInBounds_toArray, List.set_cons_zero, List.set_cons_succ]
    refine wpAnyH_take (i := 2) (oi := _) (v := ?_) rfl (by kernel_rfl) (by kernel_rfl) (by kernel_rfl) (fun _ _ _ h => h) (Or.inl ⟨by rfl, ?_⟩) (by assumption) ?_
    rotate_left
    focus (intro wS hSw; (try dsimp only at hSw); go_simp; (try with_reducible rfl))
    try simp only [Act.put, List.getElem_toArray, List.getElem_cons_zero, List.getElem_cons_succ, List.setIfInBounds_toArray, List.set_cons_zero, List.set_cons_succ]
    refine wpAnyH_take (i := 3) (oi := _) (v := ?_) rfl (by kernel_rfl) (by kernel_rfl) (by kernel_rfl) (fun _ _ _ h => h) (Or.inl ⟨by rfl, ?_⟩) (by assumption) ?_
    rotate_left
    focus (intro wS hSw; (try dsimp only at hSw); go_simp; (try with_reducible rfl))
    try simp only [Act.put, List.getElem_toArray, List.getElem_cons_zero, List.getElem_cons_succ, List.setIfInBounds_toArray, List.set_cons_zero, List.set_cons_succ]
    refine wpAnyH_take (i := 4) (oi := _) (v := ?_) rfl (by kernel_rfl) (by kernel_rfl) (by kernel_rfl) (fun _ _ _ h => h) (Or.inl ⟨by rfl, ?_⟩) (by assumption) ?_
    rotate_left
    focus (intro wS hSw; (try dsimp only at hSw); go_simp; (try with_reducible rfl))
    try simp only [Act.put, List.getElem_toArray, List.getElem_cons_zero, List.getElem_cons_succ, List.setIfInBounds_toArray, List.set_cons_zero, List.set_cons_succ]
    refine wpAnyH_take (i := 6) (oi := _) (v := ?_) rfl (by kernel_rfl) (by kernel_rfl) (by kernel_rfl) (fun _ _ _ h => h) (Or.inl ⟨by rfl, ?_⟩) (by assumption) ?_
    rotate_left
    focus (intro wS hSw; (try dsimp only at hSw); go_simp; (try with_reducible rfl))
    try simp only [Act.put, List.getElem_toArray, List.getElem_cons_zero, List.getElem_cons_succ, List.setIfInBounds_toArray, List.set_cons_zero, List.set_cons_succ]
    refine wpAnyH_take (i := 7) (oi := _) (v := ?_) rfl (by kernel_rfl) (by kernel_rfl) (by kernel_rfl) (fun _ _ _ h => h) (Or.inl ⟨by rfl, ?_⟩) (by assumption) ?_
    rotate_left
    focus (intro wS hSw; (try dsimp only at hSw); go_simp; (try with_reducible rfl))
    try simp only [Act.put, List.getElem_toArray, List.getElem_cons_zero, List.getElem_cons_succ, List.setIfInBounds_toArray, List.set_cons_zero, List.set_cons_succ]
    refine wpAnyH_take (i := 8) (oi := _) (v := ?_) rfl (by kernel_rfl) (by kernel_rfl) (by kernel_rfl) (fun _ _ _ h => h) (Or.inl ⟨by rfl, ?_⟩) (by assumption) ?_
    rotate_left
    focus (intro wS hSw; (try dsimp only at hSw); go_simp; (try with_reducible rfl))
    try simp only [Act.put, List.getElem_toArray, List.getElem_cons_zero, List.getElem_cons_succ, List.setIfInBounds_toArray, List.set_cons_zero, List.set_cons_succ]
    refine wpAnyH_take (i := 9) (oi := _) (v := ?_) rfl (by kernel_rfl) (by kernel_rfl) (by kernel_rfl) (fun _ _ _ h => h) (Or.inl ⟨by rfl, ?_⟩) (by assumption) ?_
    rotate_left
    focus (intro wS hSw; (try dsimp only at hSw); go_simp; (try with_reducible rfl))
    try simp only [Act.put, List.getElem_toArray, List.getElem_cons_zero, List.getElem_cons_succ, List.setIfInBounds_toArray, List.set_cons_zero, List.set_cons_succ]
    refine wpAnyH_take (i := 10) (oi := _) (v := ?_) rfl (by kernel_rfl) (by kernel_rfl) (by kernel_rfl) (fun _ _ _ h => h) (Or.inl ⟨by rfl, ?_⟩) (by assumption) ?_
    rotate_left
    focus (intro wS hSw; (try dsimp only at hSw); go_simp; (try with_reducible rfl))
    try simp only [Act.put, List.getElem_toArray, List.getElem_cons_zero, List.getElem_cons_succ, List.setIfInBounds_toArray, List.set_cons_zero, List.set_cons_succ]
    refine wpAnyH_ready (rs := [5]) (by kernel_rfl) (by simp) (AllReadyH.cons (o := _) rfl (fun K hK => ?_) AllReadyH.nil)
    go_simp
    go_at_call 11
    refine (rzcheck_any _ _ _ _ _ _ (T28 ++ [(x53, [x59])]) _ _ _ T38 _ _ _ _ ((by have ht := H86.out.taps 6 rfl HQ71.out; rw [HD72.out] at ht; exact ht)) ((by have ht := H86.out.taps 5 rfl HQ73.out; rw [HD42.out] at ht; exact ht))).mono ?_
    rintro e w88 ⟨rfl, hb⟩
    have H89 := hid (H86.out.call hb)
    clear hb
    obtain ⟨c90, hc90⟩ : ∃ xx', rzCode (1 + x8) (1 + x11) x17 (T28 ++ [(x53, [x59])]) T38 x77 x83 255 = xx' := ⟨_, rfl⟩
    rw [hc90]
    have HNc90 := hid hc90
    clear hc90
    refine hK.out _ _ ?_ (fun hHeld2 => ?_)
    focus ((try dsimp only); (exact ⟨H89.out.cell 7 rfl 0 rfl, H89.out.cell 7 rfl 1 rfl, H89.out.cell 7 rfl 2 rfl⟩))
    clear hK K
    try simp only [Act.put, List.getElem_toArray, List.getElem_cons_zero, List.getElem_cons_succ, List.setIfInBounds_toArray, List.set_cons_zero, List.set_cons_succ]
    clear hHeld
    have hHeld := hHeld2
    clear hHeld2
    refine wpAnyH_ready (rs := [11]) (by kernel_rfl) (by simp) (AllReadyH.cons (o := _) rfl (fun K hK => ?_) AllReadyH.nil)
    go_simp
    go_at_call 12
    refine (rrzcheck_any _ _ _ _ _ _ (T28 ++ [(x53, [x59])]) _ _ _ T38 _ _ _ _ ((by have ht := H89.out.taps 6 rfl HQ71.out; rw [HD72.out] at ht; exact ht)) ((by have ht := H89.out.taps 5 rfl HQ73.out; rw [HD42.out] at ht; exact ht))).mono ?_
    rintro e w91 ⟨rfl, hb⟩
    have H92 := hid (H89.out.call hb)
    clear hb
    rw [HNc90.out]
    refine hK.out _ _ ?_ (fun hHeld2 => ?_)
    focus ((try dsimp only); (exact ⟨H92.out.cell 7 rfl 0 rfl, H92.out.cell 7 rfl 1 rfl, H92.out.cell 7 rfl 2 rfl⟩))
    clear hK K
    try simp only [Act.put, List.getElem_toArray, List.getElem_cons_zero, List.getElem_cons_succ, List.setIfInBounds_toArray, List.set_cons_zero, List.set_cons_succ]
    clear hHeld
    have hHeld := hHeld2
    clear hHeld2
    refine wpAnyH_take (i := 12) (oi := _) (v := ?_) rfl (by kernel_rfl) (by kernel_rfl) (by kernel_rfl) (fun _ _ _ h => h) (Or.inl ⟨by rfl, ?_⟩) (by assumption) ?_
    rotate_left
    focus (intro wS hSw; (try dsimp only at hSw); go_simp; (try with_reducible rfl))
    try simp only [Act.put, List.getElem_toArray, List.getElem_cons_zero, List.getElem_cons_succ, List.setIfInBounds_toArray, List.set_cons_zero, List.set_cons_succ]
    refine wpAnyH_done (by kernel_rfl) ?_ _
    try clear hHeld
    go_wp2_with fail
    go_roundw
    case rel => exact ⟨j + 1, by omega, by go_num, (H92.out.pick [9, 10] rfl (by decide)).noRo⟩
    case measure => first | (simp [intOf]; omega) | (simp [intOf]; done)
   ·have c49a : ((x46 : Int) == (3)) = false := by simpa using c49
    have c49b : ((x46 : Int) != (3)) = true := by simpa using c49
    have c49h := hid c49
    clear c49
    obtain ⟨D93, hD93⟩ : ∃ D, w47.heap.size = D := ⟨_, rfl⟩
    go_wp2_with fail
    have H94 := hid (show St B W [.cells D93 #[.int .i64 8, .int .i64 0, .int .i64 25, .int .i64 24] 3, .arr (32) 2 (.slice ta43 T38.length tc44) (T38.length) (tapV tp39), .arr (32) 2 (.slice ta33 T28.length tc34) (T28.length) (tapV tp29), .cells D20 #[.int .i64 (1 + x8), .int .i64 (1 + x11), .int .i64 x17] 24, .cells D14 #[.int .i64 255, .int .i64 65535, .int .i64 4294967296, .int .i64 0, .int .i64 1099511627776] 3, .tape K3, .cells B #[.int .i64 sw, .int .i64 sh, .int .i64 sm] 24] R40 (w47.alloc (.cells #[.int .i64 8, .int .i64 0, .int .i64 25, .int .i64 24] 3)) from (H48.out.alloc #[.int .i64 8, .int .i64 0, .int .i64 25, .int .i64 24] 3 hD93))
    first | refine gen_code H94.out ?_ | refine gen_list H94.out ?_ | refine gen_calls H94.out ?_
    intro w95 hG
    clear H94
    have H94 := hid hG
    clear hG
    clear hD93
    refine (pickB_any B K3 _ 4 4 [8, 0, 25, 24] _ (by omega) (by omega) (H94.out.tapeAt 5 rfl) (H94.out.lit 0 [8, 0, 25, 24] rfl (by simp)).row (.inr ⟨_, rfl, H94.out.ne 0 5 rfl rfl (by decide) rfl rfl⟩)).mono ?_
    rintro e w97 ⟨x96, rfl, hx96, htn, hgn, hsn⟩
    have H98 := hid (H94.out.next 5 rfl htn hgn)
    clear htn hgn hsn
    clear hx96
    obtain ⟨D99, hD99⟩ : ∃ D, w97.heap.size = D := ⟨_, rfl⟩
    go_wp2_with fail
    have H100 := hid (show St B W [.cells D99 #[.int .i64 8, .int .i64 (-1), .int .i64 0] 3, .cells D93 #[.int .i64 8, .int .i64 0, .int .i64 25, .int .i64 24] 3, .arr (32) 2 (.slice ta43 T38.length tc44) (T38.length) (tapV tp39), .arr (32) 2 (.slice ta33 T28.length tc34) (T28.length) (tapV tp29), .cells D20 #[.int .i64 (1 + x8), .int .i64 (1 + x11), .int .i64 x17] 24, .cells D14 #[.int .i64 255, .int .i64 65535, .int .i64 4294967296, .int .i64 0, .int .i64 1099511627776] 3, .tape K3, .cells B #[.int .i64 sw, .int .i64 sh, .int .i64 sm] 24] R40 (w97.alloc (.cells #[.int .i64 8, .int .i64 (-1), .int .i64 0] 3)) from (H98.out.alloc #[.int .i64 8, .int .i64 (-1), .int .i64 0] 3 hD99))
    first | refine gen_code H100.out ?_ | refine gen_list H100.out ?_ | refine gen_calls H100.out ?_
    intro w101 hG
    clear H100
    have H100 := hid hG
    clear hG
    clear hD99
    refine (pickB_any B K3 _ 3 3 [8, (-1), 0] _ (by omega) (by omega) (H100.out.tapeAt 6 rfl) (H100.out.lit 0 [8, (-1), 0] rfl (by simp)).row (.inr ⟨_, rfl, H100.out.ne 0 6 rfl rfl (by decide) rfl rfl⟩)).mono ?_
    rintro e w103 ⟨x102, rfl, hx102, htn, hgn, hsn⟩
    have H104 := hid (H100.out.next 6 rfl htn hgn)
    clear htn hgn hsn
    clear hx102
    go_upto_region 10 with fail
    have H105 := hid H104.out.drew
    refine wp_region_held_drew (S := (fun w' => w'.cell? ⟨D20, 0, none⟩ = some (.int .i64 (1 + x8)) ∧ w'.cell? ⟨D20, 1, none⟩ = some (.int .i64 (1 + x11)) ∧ w'.cell? ⟨D20, 2, none⟩ = some (.int .i64 x17))) (by kernel_rfl) ⟨H105.out.cell 4 rfl 0 rfl, H105.out.cell 4 rfl 1 rfl, H105.out.cell 4 rfl 2 rfl⟩ (fun hHeld => ?_)
    generalize w103.drew = k106 at *
    refine wpAnyH_take (i := 0) (oi := _) (v := ?_) rfl (by kernel_rfl) (by kernel_rfl) (by kernel_rfl) (fun _ _ _ h => h) (Or.inl ⟨by rfl, ?_⟩) (by assumption) ?_
    rotate_left
    focus (intro wS hSw; (try dsimp only at hSw); go_simp; (try with_reducible rfl))
    try simp only [Act.put, List.getElem_toArray, List.getElem_cons_zero, List.getElem_cons_succ, List.setIfInBounds_toArray, List.set_cons_zero, List.set_cons_succ]
    refine wpAnyH_take (i := 1) (oi := _) (v := ?_) rfl (by kernel_rfl) (by kernel_rfl) (by kernel_rfl) (fun _ _ _ h => h) (Or.inl ⟨by rfl, ?_⟩) (by assumption) ?_
    rotate_left
    focus (intro wS hSw; (try dsimp only at hSw); go_simp; (try with_reducible rfl))
    try simp only [Act.put, List.getElem_toArray, List.getElem_cons_zero, List.getElem_cons_succ, List.setIfInBounds_toArray, List.set_cons_zero, List.set_cons_succ]
    refine wpAnyH_take (i := 2) (oi := _) (v := ?_) rfl (by kernel_rfl) (by kernel_rfl) (by kernel_rfl) (fun _ _ _ h => h) (Or.inl ⟨by rfl, ?_⟩) (by assumption) ?_
    rotate_left
    focus (intro wS hSw; (try dsimp only at hSw); go_simp; (try with_reducible rfl))
    try simp only [Act.put, List.getElem_toArray, List.getElem_cons_zero, List.getElem_cons_succ, List.setIfInBounds_toArray, List.set_cons_zero, List.set_cons_succ]
    refine wpAnyH_take (i := 3) (oi := _) (v := ?_) rfl (by kernel_rfl) (by kernel_rfl) (by kernel_rfl) (fun _ _ _ h => h) (Or.inl ⟨by rfl, ?_⟩) (by assumption) ?_
    rotate_left
    focus (intro wS hSw; (try dsimp only at hSw); go_simp; (try with_reducible rfl))
    try simp only [Act.put, List.getElem_toArray, List.getElem_cons_zero, List.getElem_cons_succ, List.setIfInBounds_toArray, List.set_cons_zero, List.set_cons_succ]
    refine wpAnyH_take (i := 4) (oi := _) (v := ?_) rfl (by kernel_rfl) (by kernel_rfl) (by kernel_rfl) (fun _ _ _ h => h) (Or.inl ⟨by rfl, ?_⟩) (by assumption) ?_
    rotate_left
    focus (intro wS hSw; (try dsimp only at hSw); go_simp; (try with_reducible rfl))
    try simp only [Act.put, List.getElem_toArray, List.getElem_cons_zero, List.getElem_cons_succ, List.setIfInBounds_toArray, List.set_cons_zero, List.set_cons_succ]
    refine wpAnyH_take (i := 6) (oi := _) (v := ?_) rfl (by kernel_rfl) (by kernel_rfl) (by kernel_rfl) (fun _ _ _ h => h) (Or.inl ⟨by rfl, ?_⟩) (by assumption) ?_
    rotate_left
    focus (intro wS hSw; (try dsimp only at hSw); go_simp; (try with_reducible rfl))
    try simp only [Act.put, List.getElem_toArray, List.getElem_cons_zero, List.getElem_cons_succ, List.setIfInBounds_toArray, List.set_cons_zero, List.set_cons_succ]
    refine wpAnyH_take (i := 7) (oi := _) (v := ?_) rfl (by kernel_rfl) (by kernel_rfl) (by kernel_rfl) (fun _ _ _ h => h) (Or.inl ⟨by rfl, ?_⟩) (by assumption) ?_
    rotate_left
    focus (intro wS hSw; (try dsimp only at hSw); go_simp; (try with_reducible rfl))
    try simp only [Act.put, List.getElem_toArray, List.getElem_cons_zero, List.getElem_cons_succ, List.setIfInBounds_toArray, List.set_cons_zero, List.set_cons_succ]
    refine wpAnyH_take (i := 8) (oi := _) (v := ?_) rfl (by kernel_rfl) (by kernel_rfl) (by kernel_rfl) (fun _ _ _ h => h) (Or.inl ⟨by rfl, ?_⟩) (by assumption) ?_
    rotate_left
    focus (intro wS hSw; (try dsimp only at hSw); go_simp; (try with_reducible rfl))
    try simp only [Act.put, List.getElem_toArray, List.getElem_cons_zero, List.getElem_cons_succ, List.setIfInBounds_toArray, List.set_cons_zero, List.set_cons_succ]
    refine wpAnyH_take (i := 9) (oi := _) (v := ?_) rfl (by kernel_rfl) (by kernel_rfl) (by kernel_rfl) (fun _ _ _ h => h) (Or.inl ⟨by rfl, ?_⟩) (by assumption) ?_
    rotate_left
    focus (intro wS hSw; (try dsimp only at hSw); go_simp; (try with_reducible rfl))
    try simp only [Act.put, List.getElem_toArray, List.getElem_cons_zero, List.getElem_cons_succ, List.setIfInBounds_toArray, List.set_cons_zero, List.set_cons_succ]
    refine wpAnyH_take (i := 10) (oi := _) (v := ?_) rfl (by kernel_rfl) (by kernel_rfl) (by kernel_rfl) (fun _ _ _ h => h) (Or.inl ⟨by rfl, ?_⟩) (by assumption) ?_
    rotate_left
    focus (intro wS hSw; (try dsimp only at hSw); go_simp; (try with_reducible rfl))
    try simp only [Act.put, List.getElem_toArray, List.getElem_cons_zero, List.getElem_cons_succ, List.setIfInBounds_toArray, List.set_cons_zero, List.set_cons_succ]
    refine wpAnyH_ready (rs := [5]) (by kernel_rfl) (by simp) (AllReadyH.cons (o := _) rfl (fun K hK => ?_) AllReadyH.nil)
    go_simp
    go_at_call 11
    refine (rzcheck_any _ _ _ _ _ _ T28 _ _ _ T38 _ _ _ _ ((by have ht := H105.out.taps 3 rfl HQ45.out; rw [HD32.out] at ht; exact ht)) ((by have ht := H105.out.taps 2 rfl HQ41.out; rw [HD42.out] at ht; exact ht))).mono ?_
    rintro e w107 ⟨rfl, hb⟩
    have H108 := hid (H105.out.call hb)
    clear hb
    obtain ⟨c109, hc109⟩ : ∃ xx', rzCode (1 + x8) (1 + x11) x17 T28 T38 x96 x102 255 = xx' := ⟨_, rfl⟩
    rw [hc109]
    have HNc109 := hid hc109
    clear hc109
    refine hK.out _ _ ?_ (fun hHeld2 => ?_)
    focus ((try dsimp only); (exact ⟨H108.out.cell 4 rfl 0 rfl, H108.out.cell 4 rfl 1 rfl, H108.out.cell 4 rfl 2 rfl⟩))
    clear hK K
    try simp only [Act.put, List.getElem_toArray, List.getElem_cons_zero, List.getElem_cons_succ, List.setIfInBounds_toArray, List.set_cons_zero, List.set_cons_succ]
    clear hHeld
    have hHeld := hHeld2
    clear hHeld2
    refine wpAnyH_ready (rs := [11]) (by kernel_rfl) (by simp) (AllReadyH.cons (o := _) rfl (fun K hK => ?_) AllReadyH.nil)
    go_simp
    go_at_call 12
    refine (rrzcheck_any _ _ _ _ _ _ T28 _ _ _ T38 _ _ _ _ ((by have ht := H108.out.taps 3 rfl HQ45.out; rw [HD32.out] at ht; exact ht)) ((by have ht := H108.out.taps 2 rfl HQ41.out; rw [HD42.out] at ht; exact ht))).mono ?_
    rintro e w110 ⟨rfl, hb⟩
    have H111 := hid (H108.out.call hb)
    clear hb
    rw [HNc109.out]
    refine hK.out _ _ ?_ (fun hHeld2 => ?_)
    focus ((try dsimp only); (exact ⟨H111.out.cell 4 rfl 0 rfl, H111.out.cell 4 rfl 1 rfl, H111.out.cell 4 rfl 2 rfl⟩))
    clear hK K
    try simp only [Act.put, List.getElem_toArray, List.getElem_cons_zero, List.getElem_cons_succ, List.setIfInBounds_toArray, List.set_cons_zero, List.set_cons_succ]
    clear hHeld
    have hHeld := hHeld2
    clear hHeld2
    refine wpAnyH_take (i := 12) (oi := _) (v := ?_) rfl (by kernel_rfl) (by kernel_rfl) (by kernel_rfl) (fun _ _ _ h => h) (Or.inl ⟨by rfl, ?_⟩) (by assumption) ?_
    rotate_left
    focus (intro wS hSw; (try dsimp only at hSw); go_simp; (try with_reducible rfl))
    try simp only [Act.put, List.getElem_toArray, List.getElem_cons_zero, List.getElem_cons_succ, List.setIfInBounds_toArray, List.set_cons_zero, List.set_cons_succ]
    refine wpAnyH_done (by kernel_rfl) ?_ _
    try clear hHeld
    go_wp2_with fail
    go_roundw
    case rel => exact ⟨j + 1, by omega, by go_num, (H111.out.pick [6, 7] rfl (by decide)).noRo⟩
    case measure => first | (simp [intOf]; omega) | (simp [intOf]; done)
  ·skip
   have hj8' : ¬ ((j : Int) < 4) := by omega
   go_upto_region 12 with fail
   rcases (show 200 < xn ∨ (xn ≤ 200 ∧ 200 < yn) ∨ (xn ≤ 200 ∧ yn ≤ 200) by omega) with hx5 | ⟨hx5, hy5⟩ | ⟨hx5, hy5⟩
   ·skip
    have hx5' : (200 : Int) < (xn : Int) := by omega
    go_upto_region 12 with fail
    have H112 := hid H7.out.drew
    refine wp_region_held_drew (S := (fun w' => w'.cell? ⟨B, 0, none⟩ = some (.int .i64 sw) ∧ w'.cell? ⟨B, 1, none⟩ = some (.int .i64 sh) ∧ w'.cell? ⟨B, 2, none⟩ = some (.int .i64 sm))) (by kernel_rfl) ⟨H112.out.cell 1 rfl 0 rfl, H112.out.cell 1 rfl 1 rfl, H112.out.cell 1 rfl 2 rfl⟩ (fun hHeld => ?_)
    generalize u6.drew = k113 at *
    refine wpAnyH_take (i := 0) (oi := _) (v := ?_) rfl (by kernel_rfl) (by kernel_rfl) (by kernel_rfl) (fun _ _ _ h => h) (Or.inl ⟨by rfl, ?_⟩) (by assumption) ?_
    rotate_left
    focus (intro wS hSw; (try dsimp only at hSw); go_simp; (try with_reducible rfl))
    try simp only [Act.put, List.getElem_toArray, List.getElem_cons_zero, List.getElem_cons_succ, List.setIfInBounds_toArray, List.set_cons_zero, List.set_cons_succ]
    refine wpAnyH_take (i := 1) (oi := _) (v := ?_) rfl (by kernel_rfl) (by kernel_rfl) (by kernel_rfl) (fun _ _ _ h => h) (Or.inl ⟨by rfl, ?_⟩) (by assumption) ?_
    rotate_left
    focus (intro wS hSw; (try dsimp only at hSw); go_simp; (try with_reducible rfl))
    try simp only [Act.put, List.getElem_toArray, List.getElem_cons_zero, List.getElem_cons_succ, List.setIfInBounds_toArray, List.set_cons_zero, List.set_cons_succ]
    refine wpAnyH_take (i := 2) (oi := _) (v := ?_) rfl (by kernel_rfl) (by kernel_rfl) (by kernel_rfl) (fun _ _ _ h => h) (Or.inl ⟨by rfl, ?_⟩) (by assumption) ?_
    rotate_left
    focus (intro wS hSw; (try dsimp only at hSw); go_simp; (try with_reducible rfl))
    try simp only [Act.put, List.getElem_toArray, List.getElem_cons_zero, List.getElem_cons_succ, List.setIfInBounds_toArray, List.set_cons_zero, List.set_cons_succ]
    refine wpAnyH_take (i := 3) (oi := _) (v := ?_) rfl (by kernel_rfl) (by kernel_rfl) (by kernel_rfl) (fun _ _ _ h => h) (Or.inl ⟨by rfl, ?_⟩) (by assumption) ?_
    rotate_left
    focus (intro wS hSw; (try dsimp only at hSw); go_simp; (try with_reducible rfl))
    try simp only [Act.put, List.getElem_toArray, List.getElem_cons_zero, List.getElem_cons_succ, List.setIfInBounds_toArray, List.set_cons_zero, List.set_cons_succ]
    refine wpAnyH_take (i := 4) (oi := _) (v := _) rfl (by kernel_rfl) (by kernel_rfl) (by kernel_rfl) (fun _ _ _ h => h) (Or.inr ⟨by rfl, rfl⟩) (by assumption) ?_
    try simp only [Act.put, List.getElem_toArray, List.getElem_cons_zero, List.getElem_cons_succ, List.setIfInBounds_toArray, List.set_cons_zero, List.set_cons_succ]
    refine wpAnyH_take (i := 5) (oi := _) (v := _) rfl (by kernel_rfl) (by kernel_rfl) (by kernel_rfl) (fun _ _ _ h => h) (Or.inr ⟨by rfl, rfl⟩) (by assumption) ?_
    try simp only [Act.put, List.getElem_toArray, List.getElem_cons_zero, List.getElem_cons_succ, List.setIfInBounds_toArray, List.set_cons_zero, List.set_cons_succ]
    refine wpAnyH_take (i := 6) (oi := _) (v := _) rfl (by kernel_rfl) (by kernel_rfl) (by kernel_rfl) (fun _ _ _ h => h) (Or.inr ⟨by rfl, rfl⟩) (by assumption) ?_
    try simp only [Act.put, List.getElem_toArray, List.getElem_cons_zero, List.getElem_cons_succ, List.setIfInBounds_toArray, List.set_cons_zero, List.set_cons_succ]
    refine wpAnyH_take (i := 7) (oi := _) (v := ?_) rfl (by kernel_rfl) (by kernel_rfl) (by kernel_rfl) (fun _ _ _ h => h) (Or.inl ⟨by rfl, ?_⟩) (by assumption) ?_
    rotate_left
    focus (intro wS hSw; (try dsimp only at hSw); go_simp; (try with_reducible rfl))
    try simp only [Act.put, List.getElem_toArray, List.getElem_cons_zero, List.getElem_cons_succ, List.setIfInBounds_toArray, List.set_cons_zero, List.set_cons_succ]
    refine wpAnyH_take (i := 8) (oi := _) (v := ?_) rfl (by kernel_rfl) (by kernel_rfl) (by kernel_rfl) (fun _ _ _ h => h) (Or.inl ⟨by rfl, ?_⟩) (by assumption) ?_
    rotate_left
    focus (intro wS hSw; (try dsimp only at hSw); go_simp; (try with_reducible rfl))
    try simp only [Act.put, List.getElem_toArray, List.getElem_cons_zero, List.getElem_cons_succ, List.setIfInBounds_toArray, List.set_cons_zero, List.set_cons_succ]
    refine wpAnyH_take (i := 9) (oi := _) (v := _) rfl (by kernel_rfl) (by kernel_rfl) (by kernel_rfl) (fun _ _ _ h => h) (Or.inr ⟨by rfl, rfl⟩) (by assumption) ?_
    try simp only [Act.put, List.getElem_toArray, List.getElem_cons_zero, List.getElem_cons_succ, List.setIfInBounds_toArray, List.set_cons_zero, List.set_cons_succ]
    refine wpAnyH_take (i := 10) (oi := _) (v := _) rfl (by kernel_rfl) (by kernel_rfl) (by kernel_rfl) (fun _ _ _ h => h) (Or.inr ⟨by rfl, rfl⟩) (by assumption) ?_
    try simp only [Act.put, List.getElem_toArray, List.getElem_cons_zero, List.getElem_cons_succ, List.setIfInBounds_toArray, List.set_cons_zero, List.set_cons_succ]
    refine wpAnyH_take (i := 11) (oi := _) (v := _) rfl (by kernel_rfl) (by kernel_rfl) (by kernel_rfl) (fun _ _ _ h => h) (Or.inr ⟨by rfl, rfl⟩) (by assumption) ?_
    try simp only [Act.put, List.getElem_toArray, List.getElem_cons_zero, List.getElem_cons_succ, List.setIfInBounds_toArray, List.set_cons_zero, List.set_cons_succ]
    refine wpAnyH_take (i := 12) (oi := _) (v := _) rfl (by kernel_rfl) (by kernel_rfl) (by kernel_rfl) (fun _ _ _ h => h) (Or.inr ⟨by rfl, rfl⟩) (by assumption) ?_
    try simp only [Act.put, List.getElem_toArray, List.getElem_cons_zero, List.getElem_cons_succ, List.setIfInBounds_toArray, List.set_cons_zero, List.set_cons_succ]
    refine wpAnyH_take (i := 13) (oi := _) (v := _) rfl (by kernel_rfl) (by kernel_rfl) (by kernel_rfl) (fun _ _ _ h => h) (Or.inr ⟨by rfl, rfl⟩) (by assumption) ?_
    try simp only [Act.put, List.getElem_toArray, List.getElem_cons_zero, List.getElem_cons_succ, List.setIfInBounds_toArray, List.set_cons_zero, List.set_cons_succ]
    refine wpAnyH_take (i := 14) (oi := _) (v := _) rfl (by kernel_rfl) (by kernel_rfl) (by kernel_rfl) (fun _ _ _ h => h) (Or.inr ⟨by rfl, rfl⟩) (by assumption) ?_
    try simp only [Act.put, List.getElem_toArray, List.getElem_cons_zero, List.getElem_cons_succ, List.setIfInBounds_toArray, List.set_cons_zero, List.set_cons_succ]
    refine wpAnyH_take (i := 15) (oi := _) (v := _) rfl (by kernel_rfl) (by kernel_rfl) (by kernel_rfl) (fun _ _ _ h => h) (Or.inr ⟨by rfl, rfl⟩) (by assumption) ?_
    try simp only [Act.put, List.getElem_toArray, List.getElem_cons_zero, List.getElem_cons_succ, List.setIfInBounds_toArray, List.set_cons_zero, List.set_cons_succ]
    refine wpAnyH_take (i := 16) (oi := _) (v := _) rfl (by kernel_rfl) (by kernel_rfl) (by kernel_rfl) (fun _ _ _ h => h) (Or.inr ⟨by rfl, rfl⟩) (by assumption) ?_
    try simp only [Act.put, List.getElem_toArray, List.getElem_cons_zero, List.getElem_cons_succ, List.setIfInBounds_toArray, List.set_cons_zero, List.set_cons_succ]
    refine wpAnyH_take (i := 17) (oi := _) (v := _) rfl (by kernel_rfl) (by kernel_rfl) (by kernel_rfl) (fun _ _ _ h => h) (Or.inr ⟨by rfl, rfl⟩) (by assumption) ?_
    try simp only [Act.put, List.getElem_toArray, List.getElem_cons_zero, List.getElem_cons_succ, List.setIfInBounds_toArray, List.set_cons_zero, List.set_cons_succ]
    refine wpAnyH_take (i := 18) (oi := _) (v := _) rfl (by kernel_rfl) (by kernel_rfl) (by kernel_rfl) (fun _ _ _ h => h) (Or.inr ⟨by rfl, rfl⟩) (by assumption) ?_
    try simp only [Act.put, List.getElem_toArray, List.getElem_cons_zero, List.getElem_cons_succ, List.setIfInBounds_toArray, List.set_cons_zero, List.set_cons_succ]
    refine wpAnyH_take (i := 19) (oi := _) (v := _) rfl (by kernel_rfl) (by kernel_rfl) (by kernel_rfl) (fun _ _ _ h => h) (Or.inr ⟨by rfl, rfl⟩) (by assumption) ?_
    try simp only [Act.put, List.getElem_toArray, List.getElem_cons_zero, List.getElem_cons_succ, List.setIfInBounds_toArray, List.set_cons_zero, List.set_cons_succ]
    refine wpAnyH_take (i := 20) (oi := _) (v := _) rfl (by kernel_rfl) (by kernel_rfl) (by kernel_rfl) (fun _ _ _ h => h) (Or.inr ⟨by rfl, rfl⟩) (by assumption) ?_
    try simp only [Act.put, List.getElem_toArray, List.getElem_cons_zero, List.getElem_cons_succ, List.setIfInBounds_toArray, List.set_cons_zero, List.set_cons_succ]
    refine wpAnyH_take (i := 21) (oi := _) (v := _) rfl (by kernel_rfl) (by kernel_rfl) (by kernel_rfl) (fun _ _ _ h => h) (Or.inr ⟨by rfl, rfl⟩) (by assumption) ?_
    try simp only [Act.put, List.getElem_toArray, List.getElem_cons_zero, List.getElem_cons_succ, List.setIfInBounds_toArray, List.set_cons_zero, List.set_cons_succ]
    refine wpAnyH_take (i := 22) (oi := _) (v := _) rfl (by kernel_rfl) (by kernel_rfl) (by kernel_rfl) (fun _ _ _ h => h) (Or.inr ⟨by rfl, rfl⟩) (by assumption) ?_
    try simp only [Act.put, List.getElem_toArray, List.getElem_cons_zero, List.getElem_cons_succ, List.setIfInBounds_toArray, List.set_cons_zero, List.set_cons_succ]
    refine wpAnyH_take (i := 23) (oi := _) (v := _) rfl (by kernel_rfl) (by kernel_rfl) (by kernel_rfl) (fun _ _ _ h => h) (Or.inr ⟨by rfl, rfl⟩) (by assumption) ?_
    try simp only [Act.put, List.getElem_toArray, List.getElem_cons_zero, List.getElem_cons_succ, List.setIfInBounds_toArray, List.set_cons_zero, List.set_cons_succ]
    refine wpAnyH_take (i := 24) (oi := _) (v := ?_) rfl (by kernel_rfl) (by kernel_rfl) (by kernel_rfl) (fun _ _ _ h => h) (Or.inl ⟨by rfl, ?_⟩) (by assumption) ?_
    rotate_left
    focus (intro wS hSw; (try dsimp only at hSw); go_simp; (try with_reducible rfl))
    try simp only [Act.put, List.getElem_toArray, List.getElem_cons_zero, List.getElem_cons_succ, List.setIfInBounds_toArray, List.set_cons_zero, List.set_cons_succ]
    refine wpAnyH_take (i := 25) (oi := _) (v := ?_) rfl (by kernel_rfl) (by kernel_rfl) (by kernel_rfl) (fun _ _ _ h => h) (Or.inl ⟨by rfl, ?_⟩) (by assumption) ?_
    rotate_left
    focus (intro wS hSw; (try dsimp only at hSw); go_simp; (try with_reducible rfl))
    try simp only [Act.put, List.getElem_toArray, List.getElem_cons_zero, List.getElem_cons_succ, List.setIfInBounds_toArray, List.set_cons_zero, List.set_cons_succ]
    refine wpAnyH_ready (rs := [26]) (by kernel_rfl) (by simp) (AllReadyH.cons (o := _) rfl (fun K hK => ?_) AllReadyH.nil)
    go_simp
    go_at_call 13
    refine (sane11 _).mono ?_
    rintro e w114 ⟨rfl, hb⟩
    have H115 := hid (H112.out.call hb)
    clear hb
    refine hK.out _ _ ?_ (fun hHeld2 => ?_)
    focus ((try dsimp only); (exact ⟨H115.out.cell 1 rfl 0 rfl, H115.out.cell 1 rfl 1 rfl, H115.out.cell 1 rfl 2 rfl⟩))
    clear hK K
    try simp only [Act.put, List.getElem_toArray, List.getElem_cons_zero, List.getElem_cons_succ, List.setIfInBounds_toArray, List.set_cons_zero, List.set_cons_succ]
    clear hHeld
    have hHeld := hHeld2
    clear hHeld2
    refine wpAnyH_take (i := 27) (oi := _) (v := ?_) rfl (by kernel_rfl) (by kernel_rfl) (by kernel_rfl) (fun _ _ _ h => h) (Or.inl ⟨by rfl, ?_⟩) (by assumption) ?_
    rotate_left
    focus (intro wS hSw; (try dsimp only at hSw); go_simp; (try with_reducible rfl))
    try simp only [Act.put, List.getElem_toArray, List.getElem_cons_zero, List.getElem_cons_succ, List.setIfInBounds_toArray, List.set_cons_zero, List.set_cons_succ]
    refine wpAnyH_take (i := 28) (oi := _) (v := ?_) rfl (by kernel_rfl) (by kernel_rfl) (by kernel_rfl) (fun _ _ _ h => h) (Or.inl ⟨by rfl, ?_⟩) (by assumption) ?_
    rotate_left
    focus (intro wS hSw; (try dsimp only at hSw); go_simp; (try with_reducible rfl))
    try simp only [Act.put, List.getElem_toArray, List.getElem_cons_zero, List.getElem_cons_succ, List.setIfInBounds_toArray, List.set_cons_zero, List.set_cons_succ]
    refine wpAnyH_done (by kernel_rfl) ?_ _
    try clear hHeld
    go_wp2_with fail
    go_ret
    exact ⟨rfl, by first | exact H115.out.below | exact H115.out.below'⟩
   ·skip
    have hx5' : ¬ ((200 : Int) < (xn : Int)) := by omega
    have hy5' : (200 : Int) < (yn : Int) := by omega
    go_upto_region 12 with fail
    have H116 := hid H7.out.drew
    refine wp_region_held_drew (S := (fun w' => w'.cell? ⟨B, 0, none⟩ = some (.int .i64 sw) ∧ w'.cell? ⟨B, 1, none⟩ = some (.int .i64 sh) ∧ w'.cell? ⟨B, 2, none⟩ = some (.int .i64 sm))) (by kernel_rfl) ⟨H116.out.cell 1 rfl 0 rfl, H116.out.cell 1 rfl 1 rfl, H116.out.cell 1 rfl 2 rfl⟩ (fun hHeld => ?_)
    generalize u6.drew = k117 at *
    refine wpAnyH_take (i := 0) (oi := _) (v := ?_) rfl (by kernel_rfl) (by kernel_rfl) (by kernel_rfl) (fun _ _ _ h => h) (Or.inl ⟨by rfl, ?_⟩) (by assumption) ?_
    rotate_left
    focus (intro wS hSw; (try dsimp only at hSw); go_simp; (try with_reducible rfl))
    try simp only [Act.put, List.getElem_toArray, List.getElem_cons_zero, List.getElem_cons_succ, List.setIfInBounds_toArray, List.set_cons_zero, List.set_cons_succ]
    refine wpAnyH_take (i := 1) (oi := _) (v := ?_) rfl (by kernel_rfl) (by kernel_rfl) (by kernel_rfl) (fun _ _ _ h => h) (Or.inl ⟨by rfl, ?_⟩) (by assumption) ?_
    rotate_left
    focus (intro wS hSw; (try dsimp only at hSw); go_simp; (try with_reducible rfl))
    try simp only [Act.put, List.getElem_toArray, List.getElem_cons_zero, List.getElem_cons_succ, List.setIfInBounds_toArray, List.set_cons_zero, List.set_cons_succ]
    refine wpAnyH_take (i := 2) (oi := _) (v := ?_) rfl (by kernel_rfl) (by kernel_rfl) (by kernel_rfl) (fun _ _ _ h => h) (Or.inl ⟨by rfl, ?_⟩) (by assumption) ?_
    rotate_left
    focus (intro wS hSw; (try dsimp only at hSw); go_simp; (try with_reducible rfl))
    try simp only [Act.put, List.getElem_toArray, List.getElem_cons_zero, List.getElem_cons_succ, List.setIfInBounds_toArray, List.set_cons_zero, List.set_cons_succ]
    refine wpAnyH_take (i := 3) (oi := _) (v := ?_) rfl (by kernel_rfl) (by kernel_rfl) (by kernel_rfl) (fun _ _ _ h => h) (Or.inl ⟨by rfl, ?_⟩) (by assumption) ?_
    rotate_left
    focus (intro wS hSw; (try dsimp only at hSw); go_simp; (try with_reducible rfl))
    try simp only [Act.put, List.getElem_toArray, List.getElem_cons_zero, List.getElem_cons_succ, List.setIfInBounds_toArray, List.set_cons_zero, List.set_cons_succ]
    refine wpAnyH_take (i := 4) (oi := _) (v := ?_) rfl (by kernel_rfl) (by kernel_rfl) (by kernel_rfl) (fun _ _ _ h => h) (Or.inl ⟨by rfl, ?_⟩) (by assumption) ?_
    rotate_left
    focus (intro wS hSw; (try dsimp only at hSw); go_simp; (try with_reducible rfl))
    try simp only [Act.put, List.getElem_toArray, List.getElem_cons_zero, List.getElem_cons_succ, List.setIfInBounds_toArray, List.set_cons_zero, List.set_cons_succ]
    refine wpAnyH_take (i := 5) (oi := _) (v := ?_) rfl (by kernel_rfl) (by kernel_rfl) (by kernel_rfl) (fun _ _ _ h => h) (Or.inl ⟨by rfl, ?_⟩) (by assumption) ?_
    rotate_left
    focus (intro wS hSw; (try dsimp only at hSw); go_simp; (try with_reducible rfl))
    try simp only [Act.put, List.getElem_toArray, List.getElem_cons_zero, List.getElem_cons_succ, List.setIfInBounds_toArray, List.set_cons_zero, List.set_cons_succ]
    refine wpAnyH_take (i := 6) (oi := _) (v := ?_) rfl (by kernel_rfl) (by kernel_rfl) (by kernel_rfl) (fun _ _ _ h => h) (Or.inl ⟨by rfl, ?_⟩) (by assumption) ?_
    rotate_left
    focus (intro wS hSw; (try dsimp only at hSw); go_simp; (try with_reducible rfl))
    try simp only [Act.put, List.getElem_toArray, List.getElem_cons_zero, List.getElem_cons_succ, List.setIfInBounds_toArray, List.set_cons_zero, List.set_cons_succ]
    refine wpAnyH_take (i := 7) (oi := _) (v := ?_) rfl (by kernel_rfl) (by kernel_rfl) (by kernel_rfl) (fun _ _ _ h => h) (Or.inl ⟨by rfl, ?_⟩) (by assumption) ?_
    rotate_left
    focus (intro wS hSw; (try dsimp only at hSw); go_simp; (try with_reducible rfl))
    try simp only [Act.put, List.getElem_toArray, List.getElem_cons_zero, List.getElem_cons_succ, List.setIfInBounds_toArray, List.set_cons_zero, List.set_cons_succ]
    refine wpAnyH_take (i := 8) (oi := _) (v := ?_) rfl (by kernel_rfl) (by kernel_rfl) (by kernel_rfl) (fun _ _ _ h => h) (Or.inl ⟨by rfl, ?_⟩) (by assumption) ?_
    rotate_left
    focus (intro wS hSw; (try dsimp only at hSw); go_simp; (try with_reducible rfl))
    try simp only [Act.put, List.getElem_toArray, List.getElem_cons_zero, List.getElem_cons_succ, List.setIfInBounds_toArray, List.set_cons_zero, List.set_cons_succ]
    refine wpAnyH_take (i := 9) (oi := _) (v := _) rfl (by kernel_rfl) (by kernel_rfl) (by kernel_rfl) (fun _ _ _ h => h) (Or.inr ⟨by rfl, rfl⟩) (by assumption) ?_
    try simp only [Act.put, List.getElem_toArray, List.getElem_cons_zero, List.getElem_cons_succ, List.setIfInBounds_toArray, List.set_cons_zero, List.set_cons_succ]
    refine wpAnyH_take (i := 10) (oi := _) (v := _) rfl (by kernel_rfl) (by kernel_rfl) (by kernel_rfl) (fun _ _ _ h => h) (Or.inr ⟨by rfl, rfl⟩) (by assumption) ?_
    try simp only [Act.put, List.getElem_toArray, List.getElem_cons_zero, List.getElem_cons_succ, List.setIfInBounds_toArray, List.set_cons_zero, List.set_cons_succ]
    refine wpAnyH_take (i := 11) (oi := _) (v := _) rfl (by kernel_rfl) (by kernel_rfl) (by kernel_rfl) (fun _ _ _ h => h) (Or.inr ⟨by rfl, rfl⟩) (by assumption) ?_
    try simp only [Act.put, List.getElem_toArray, List.getElem_cons_zero, List.getElem_cons_succ, List.setIfInBounds_toArray, List.set_cons_zero, List.set_cons_succ]
    refine wpAnyH_take (i := 12) (oi := _) (v := _) rfl (by kernel_rfl) (by kernel_rfl) (by kernel_rfl) (fun _ _ _ h => h) (Or.inr ⟨by rfl, rfl⟩) (by assumption) ?_
    try simp only [Act.put, List.getElem_toArray, List.getElem_cons_zero, List.getElem_cons_succ, List.setIfInBounds_toArray, List.set_cons_zero, List.set_cons_succ]
    refine wpAnyH_take (i := 13) (oi := _) (v := _) rfl (by kernel_rfl) (by kernel_rfl) (by kernel_rfl) (fun _ _ _ h => h) (Or.inr ⟨by rfl, rfl⟩) (by assumption) ?_
    try simp only [Act.put, List.getElem_toArray, List.getElem_cons_zero, List.getElem_cons_succ, List.setIfInBounds_toArray, List.set_cons_zero, List.set_cons_succ]
    refine wpAnyH_take (i := 14) (oi := _) (v := _) rfl (by kernel_rfl) (by kernel_rfl) (by kernel_rfl) (fun _ _ _ h => h) (Or.inr ⟨by rfl, rfl⟩) (by assumption) ?_
    try simp only [Act.put, List.getElem_toArray, List.getElem_cons_zero, List.getElem_cons_succ, List.setIfInBounds_toArray, List.set_cons_zero, List.set_cons_succ]
    refine wpAnyH_take (i := 15) (oi := _) (v := _) rfl (by kernel_rfl) (by kernel_rfl) (by kernel_rfl) (fun _ _ _ h => h) (Or.inr ⟨by rfl, rfl⟩) (by assumption) ?_
    try simp only [Act.put, List.getElem_toArray, List.getElem_cons_zero, List.getElem_cons_succ, List.setIfInBounds_toArray, List.set_cons_zero, List.set_cons_succ]
    refine wpAnyH_take (i := 16) (oi := _) (v := _) rfl (by kernel_rfl) (by kernel_rfl) (by kernel_rfl) (fun _ _ _ h => h) (Or.inr ⟨by rfl, rfl⟩) (by assumption) ?_
    try simp only [Act.put, List.getElem_toArray, List.getElem_cons_zero, List.getElem_cons_succ, List.setIfInBounds_toArray, List.set_cons_zero, List.set_cons_succ]
    refine wpAnyH_take (i := 17) (oi := _) (v := _) rfl (by kernel_rfl) (by kernel_rfl) (by kernel_rfl) (fun _ _ _ h => h) (Or.inr ⟨by rfl, rfl⟩) (by assumption) ?_
    try simp only [Act.put, List.getElem_toArray, List.getElem_cons_zero, List.getElem_cons_succ, List.setIfInBounds_toArray, List.set_cons_zero, List.set_cons_succ]
    refine wpAnyH_take (i := 18) (oi := _) (v := _) rfl (by kernel_rfl) (by kernel_rfl) (by kernel_rfl) (fun _ _ _ h => h) (Or.inr ⟨by rfl, rfl⟩) (by assumption) ?_
    try simp only [Act.put, List.getElem_toArray, List.getElem_cons_zero, List.getElem_cons_succ, List.setIfInBounds_toArray, List.set_cons_zero, List.set_cons_succ]
    refine wpAnyH_take (i := 19) (oi := _) (v := _) rfl (by kernel_rfl) (by kernel_rfl) (by kernel_rfl) (fun _ _ _ h => h) (Or.inr ⟨by rfl, rfl⟩) (by assumption) ?_
    try simp only [Act.put, List.getElem_toArray, List.getElem_cons_zero, List.getElem_cons_succ, List.setIfInBounds_toArray, List.set_cons_zero, List.set_cons_succ]
    refine wpAnyH_take (i := 20) (oi := _) (v := _) rfl (by kernel_rfl) (by kernel_rfl) (by kernel_rfl) (fun _ _ _ h => h) (Or.inr ⟨by rfl, rfl⟩) (by assumption) ?_
    try simp only [Act.put, List.getElem_toArray, List.getElem_cons_zero, List.getElem_cons_succ, List.setIfInBounds_toArray, List.set_cons_zero, List.set_cons_succ]
    refine wpAnyH_take (i := 21) (oi := _) (v := _) rfl (by kernel_rfl) (by kernel_rfl) (by kernel_rfl) (fun _ _ _ h => h) (Or.inr ⟨by rfl, rfl⟩) (by assumption) ?_
    try simp only [Act.put, List.getElem_toArray, List.getElem_cons_zero, List.getElem_cons_succ, List.setIfInBounds_toArray, List.set_cons_zero, List.set_cons_succ]
    refine wpAnyH_take (i := 22) (oi := _) (v := _) rfl (by kernel_rfl) (by kernel_rfl) (by kernel_rfl) (fun _ _ _ h => h) (Or.inr ⟨by rfl, rfl⟩) (by assumption) ?_
    try simp only [Act.put, List.getElem_toArray, List.getElem_cons_zero, List.getElem_cons_succ, List.setIfInBounds_toArray, List.set_cons_zero, List.set_cons_succ]
    refine wpAnyH_take (i := 23) (oi := _) (v := _) rfl (by kernel_rfl) (by kernel_rfl) (by kernel_rfl) (fun _ _ _ h => h) (Or.inr ⟨by rfl, rfl⟩) (by assumption) ?_
    try simp only [Act.put, List.getElem_toArray, List.getElem_cons_zero, List.getElem_cons_succ, List.setIfInBounds_toArray, List.set_cons_zero, List.set_cons_succ]
    refine wpAnyH_take (i := 24) (oi := _) (v := ?_) rfl (by kernel_rfl) (by kernel_rfl) (by kernel_rfl) (fun _ _ _ h => h) (Or.inl ⟨by rfl, ?_⟩) (by assumption) ?_
    rotate_left
    focus (intro wS hSw; (try dsimp only at hSw); go_simp; (try with_reducible rfl))
    try simp only [Act.put, List.getElem_toArray, List.getElem_cons_zero, List.getElem_cons_succ, List.setIfInBounds_toArray, List.set_cons_zero, List.set_cons_succ]
    refine wpAnyH_take (i := 25) (oi := _) (v := ?_) rfl (by kernel_rfl) (by kernel_rfl) (by kernel_rfl) (fun _ _ _ h => h) (Or.inl ⟨by rfl, ?_⟩) (by assumption) ?_
    rotate_left
    focus (intro wS hSw; (try dsimp only at hSw); go_simp; (try with_reducible rfl))
    try simp only [Act.put, List.getElem_toArray, List.getElem_cons_zero, List.getElem_cons_succ, List.setIfInBounds_toArray, List.set_cons_zero, List.set_cons_succ]
    refine wpAnyH_ready (rs := [26]) (by kernel_rfl) (by simp) (AllReadyH.cons (o := _) rfl (fun K hK => ?_) AllReadyH.nil)
    go_simp
    go_at_call 13
    refine (sane11 _).mono ?_
    rintro e w118 ⟨rfl, hb⟩
    have H119 := hid (H116.out.call hb)
    clear hb
    refine hK.out _ _ ?_ (fun hHeld2 => ?_)
    focus ((try dsimp only); (exact ⟨H119.out.cell 1 rfl 0 rfl, H119.out.cell 1 rfl 1 rfl, H119.out.cell 1 rfl 2 rfl⟩))
    clear hK K
    try simp only [Act.put, List.getElem_toArray, List.getElem_cons_zero, List.getElem_cons_succ, List.setIfInBounds_toArray, List.set_cons_zero, List.set_cons_succ]
    clear hHeld
    have hHeld := hHeld2
    clear hHeld2
    refine wpAnyH_take (i := 27) (oi := _) (v := ?_) rfl (by kernel_rfl) (by kernel_rfl) (by kernel_rfl) (fun _ _ _ h => h) (Or.inl ⟨by rfl, ?_⟩) (by assumption) ?_
    rotate_left
    focus (intro wS hSw; (try dsimp only at hSw); go_simp; (try with_reducible rfl))
    try simp only [Act.put, List.getElem_toArray, List.getElem_cons_zero, List.getElem_cons_succ, List.setIfInBounds_toArray, List.set_cons_zero, List.set_cons_succ]
    refine wpAnyH_take (i := 28) (oi := _) (v := ?_) rfl (by kernel_rfl) (by kernel_rfl) (by kernel_rfl) (fun _ _ _ h => h) (Or.inl ⟨by rfl, ?_⟩) (by assumption) ?_
    rotate_left
    focus (intro wS hSw; (try dsimp only at hSw); go_simp; (try with_reducible rfl))
    try simp only [Act.put, List.getElem_toArray, List.getElem_cons_zero, List.getElem_cons_succ, List.setIfInBounds_toArray, List.set_cons_zero, List.set_cons_succ]
    refine wpAnyH_done (by kernel_rfl) ?_ _
    try clear hHeld
    go_wp2_with fail
    go_ret
    exact ⟨rfl, by first | exact H119.out.below | exact H119.out.below'⟩
   ·skip
    have hx5' : ¬ ((200 : Int) < (xn : Int)) := by omega
    have hy5' : ¬ ((200 : Int) < (yn : Int)) := by omega
    go_upto_region 12 with fail
    have H120 := hid H7.out.drew
    refine wp_region_held_drew (S := (fun w' => w'.cell? ⟨B, 0, none⟩ = some (.int .i64 sw) ∧ w'.cell? ⟨B, 1, none⟩ = some (.int .i64 sh) ∧ w'.cell? ⟨B, 2, none⟩ = some (.int .i64 sm))) (by kernel_rfl) ⟨H120.out.cell 1 rfl 0 rfl, H120.out.cell 1 rfl 1 rfl, H120.out.cell 1 rfl 2 rfl⟩ (fun hHeld => ?_)
    generalize u6.drew = k121 at *
    refine wpAnyH_take (i := 0) (oi := _) (v := ?_) rfl (by kernel_rfl) (by kernel_rfl) (by kernel_rfl) (fun _ _ _ h => h) (Or.inl ⟨by rfl, ?_⟩) (by assumption) ?_
    rotate_left
    focus (intro wS hSw; (try dsimp only at hSw); go_simp; (try with_reducible rfl))
    try simp only [Act.put, List.getElem_toArray, List.getElem_cons_zero, List.getElem_cons_succ, List.setIfInBounds_toArray, List.set_cons_zero, List.set_cons_succ]
    refine wpAnyH_take (i := 1) (oi := _) (v := ?_) rfl (by kernel_rfl) (by kernel_rfl) (by kernel_rfl) (fun _ _ _ h => h) (Or.inl ⟨by rfl, ?_⟩) (by assumption) ?_
    rotate_left
    focus (intro wS hSw; (try dsimp only at hSw); go_simp; (try with_reducible rfl))
    try simp only [Act.put, List.getElem_toArray, List.getElem_cons_zero, List.getElem_cons_succ, List.setIfInBounds_toArray, List.set_cons_zero, List.set_cons_succ]
    refine wpAnyH_take (i := 2) (oi := _) (v := ?_) rfl (by kernel_rfl) (by kernel_rfl) (by kernel_rfl) (fun _ _ _ h => h) (Or.inl ⟨by rfl, ?_⟩) (by assumption) ?_
    rotate_left
    focus (intro wS hSw; (try dsimp only at hSw); go_simp; (try with_reducible rfl))
    try simp only [Act.put, List.getElem_toArray, List.getElem_cons_zero, List.getElem_cons_succ, List.setIfInBounds_toArray, List.set_cons_zero, List.set_cons_succ]
    refine wpAnyH_take (i := 3) (oi := _) (v := ?_) rfl (by kernel_rfl) (by kernel_rfl) (by kernel_rfl) (fun _ _ _ h => h) (Or.inl ⟨by rfl, ?_⟩) (by assumption) ?_
    rotate_left
    focus (intro wS hSw; (try dsimp only at hSw); go_simp; (try with_reducible rfl))
    try simp only [Act.put, List.getElem_toArray, List.getElem_cons_zero, List.getElem_cons_succ, List.setIfInBounds_toArray, List.set_cons_zero, List.set_cons_succ]
    refine wpAnyH_take (i := 4) (oi := _) (v := ?_) rfl (by kernel_rfl) (by kernel_rfl) (by kernel_rfl) (fun _ _ _ h => h) (Or.inl ⟨by rfl, ?_⟩) (by assumption) ?_
    rotate_left
    focus (intro wS hSw; (try dsimp only at hSw); go_simp; (try with_reducible rfl))
    try simp only [Act.put, List.getElem_toArray, List.getElem_cons_zero, List.getElem_cons_succ, List.setIfInBounds_toArray, List.set_cons_zero, List.set_cons_succ]
    refine wpAnyH_take (i := 5) (oi := _) (v := ?_) rfl (by kernel_rfl) (by kernel_rfl) (by kernel_rfl) (fun _ _ _ h => h) (Or.inl ⟨by rfl, ?_⟩) (by assumption) ?_
    rotate_left
    focus (intro wS hSw; (try dsimp only at hSw); go_simp; (try with_reducible rfl))
    try simp only [Act.put, List.getElem_toArray, List.getElem_cons_zero, List.getElem_cons_succ, List.setIfInBounds_toArray, List.set_cons_zero, List.set_cons_succ]
    refine wpAnyH_take (i := 6) (oi := _) (v := ?_) rfl (by kernel_rfl) (by kernel_rfl) (by kernel_rfl) (fun _ _ _ h => h) (Or.inl ⟨by rfl, ?_⟩) (by assumption) ?_
    rotate_left
    focus (intro wS hSw; (try dsimp only at hSw); go_simp; (try with_reducible rfl))
    try simp only [Act.put, List.getElem_toArray, List.getElem_cons_zero, List.getElem_cons_succ, List.setIfInBounds_toArray, List.set_cons_zero, List.set_cons_succ]
    refine wpAnyH_take (i := 7) (oi := _) (v := ?_) rfl (by kernel_rfl) (by kernel_rfl) (by kernel_rfl) (fun _ _ _ h => h) (Or.inl ⟨by rfl, ?_⟩) (by assumption) ?_
    rotate_left
    focus (intro wS hSw; (try dsimp only at hSw); go_simp; (try with_reducible rfl))
    try simp only [Act.put, List.getElem_toArray, List.getElem_cons_zero, List.getElem_cons_succ, List.setIfInBounds_toArray, List.set_cons_zero, List.set_cons_succ]
    refine wpAnyH_take (i := 8) (oi := _) (v := ?_) rfl (by kernel_rfl) (by kernel_rfl) (by kernel_rfl) (fun _ _ _ h => h) (Or.inl ⟨by rfl, ?_⟩) (by assumption) ?_
    rotate_left
    focus (intro wS hSw; (try dsimp only at hSw); go_simp; (try with_reducible rfl))
    try simp only [Act.put, List.getElem_toArray, List.getElem_cons_zero, List.getElem_cons_succ, List.setIfInBounds_toArray, List.set_cons_zero, List.set_cons_succ]
    refine wpAnyH_take (i := 9) (oi := _) (v := ?_) rfl (by kernel_rfl) (by kernel_rfl) (by kernel_rfl) (fun _ _ _ h => h) (Or.inl ⟨by rfl, ?_⟩) (by assumption) ?_
    rotate_left
    focus (intro wS hSw; (try dsimp only at hSw); go_simp; (try with_reducible rfl))
    try simp only [Act.put, List.getElem_toArray, List.getElem_cons_zero, List.getElem_cons_succ, List.setIfInBounds_toArray, List.set_cons_zero, List.set_cons_succ]
    refine wpAnyH_take (i := 10) (oi := _) (v := ?_) rfl (by kernel_rfl) (by kernel_rfl) (by kernel_rfl) (fun _ _ _ h => h) (Or.inl ⟨by rfl, ?_⟩) (by assumption) ?_
    rotate_left
    focus (intro wS hSw; (try dsimp only at hSw); go_simp; (try with_reducible rfl))
    try simp only [Act.put, List.getElem_toArray, List.getElem_cons_zero, List.getElem_cons_succ, List.setIfInBounds_toArray, List.set_cons_zero, List.set_cons_succ]
    refine wpAnyH_take (i := 11) (oi := _) (v := ?_) rfl (by kernel_rfl) (by kernel_rfl) (by kernel_rfl) (fun _ _ _ h => h) (Or.inl ⟨by rfl, ?_⟩) (by assumption) ?_
    rotate_left
    focus (intro wS hSw; (try dsimp only at hSw); go_simp; (try with_reducible rfl))
    try simp only [Act.put, List.getElem_toArray, List.getElem_cons_zero, List.getElem_cons_succ, List.setIfInBounds_toArray, List.set_cons_zero, List.set_cons_succ]
    refine wpAnyH_take (i := 12) (oi := _) (v := ?_) rfl (by kernel_rfl) (by kernel_rfl) (by kernel_rfl) (fun _ _ _ h => h) (Or.inl ⟨by rfl, ?_⟩) (by assumption) ?_
    rotate_left
    focus (intro wS hSw; (try dsimp only at hSw); go_simp; (try with_reducible rfl))
    try simp only [Act.put, List.getElem_toArray, List.getElem_cons_zero, List.getElem_cons_succ, List.setIfInBounds_toArray, List.set_cons_zero, List.set_cons_succ]
    refine wpAnyH_take (i := 13) (oi := _) (v := ?_) rfl (by kernel_rfl) (by kernel_rfl) (by kernel_rfl) (fun _ _ _ h => h) (Or.inl ⟨by rfl, ?_⟩) (by assumption) ?_
    rotate_left
    focus (intro wS hSw; (try dsimp only at hSw); go_simp; (try with_reducible rfl))
    try simp only [Act.put, List.getElem_toArray, List.getElem_cons_zero, List.getElem_cons_succ, List.setIfInBounds_toArray, List.set_cons_zero, List.set_cons_succ]
    refine wpAnyH_take (i := 14) (oi := _) (v := ?_) rfl (by kernel_rfl) (by kernel_rfl) (by kernel_rfl) (fun _ _ _ h => h) (Or.inl ⟨by rfl, ?_⟩) (by assumption) ?_
    rotate_left
    focus (intro wS hSw; (try dsimp only at hSw); go_simp; (try with_reducible rfl))
    try simp only [Act.put, List.getElem_toArray, List.getElem_cons_zero, List.getElem_cons_succ, List.setIfInBounds_toArray, List.set_cons_zero, List.set_cons_succ]
    refine wpAnyH_take (i := 16) (oi := _) (v := ?_) rfl (by kernel_rfl) (by kernel_rfl) (by kernel_rfl) (fun _ _ _ h => h) (Or.inl ⟨by rfl, ?_⟩) (by assumption) ?_
    rotate_left
    focus (intro wS hSw; (try dsimp only at hSw); go_simp; (try with_reducible rfl))
    try simp only [Act.put, List.getElem_toArray, List.getElem_cons_zero, List.getElem_cons_succ, List.setIfInBounds_toArray, List.set_cons_zero, List.set_cons_succ]
    refine wpAnyH_take (i := 17) (oi := _) (v := ?_) rfl (by kernel_rfl) (by kernel_rfl) (by kernel_rfl) (fun _ _ _ h => h) (Or.inl ⟨by rfl, ?_⟩) (by assumption) ?_
    rotate_left
    focus (intro wS hSw; (try dsimp only at hSw); go_simp; (try with_reducible rfl))
    try simp only [Act.put, List.getElem_toArray, List.getElem_cons_zero, List.getElem_cons_succ, List.setIfInBounds_toArray, List.set_cons_zero, List.set_cons_succ]
    refine wpAnyH_take (i := 18) (oi := _) (v := ?_) rfl (by kernel_rfl) (by kernel_rfl) (by kernel_rfl) (fun _ _ _ h => h) (Or.inl ⟨by rfl, ?_⟩) (by assumption) ?_
    rotate_left
    focus (intro wS hSw; (try dsimp only at hSw); go_simp; (try with_reducible rfl))
    try simp only [Act.put, List.getElem_toArray, List.getElem_cons_zero, List.getElem_cons_succ, List.setIfInBounds_toArray, List.set_cons_zero, List.set_cons_succ]
    refine wpAnyH_take (i := 19) (oi := _) (v := ?_) rfl (by kernel_rfl) (by kernel_rfl) (by kernel_rfl) (fun _ _ _ h => h) (Or.inl ⟨by rfl, ?_⟩) (by assumption) ?_
    rotate_left
    focus (intro wS hSw; (try dsimp only at hSw); go_simp; (try with_reducible rfl))
    try simp only [Act.put, List.getElem_toArray, List.getElem_cons_zero, List.getElem_cons_succ, List.setIfInBounds_toArray, List.set_cons_zero, List.set_cons_succ]
    refine wpAnyH_take (i := 20) (oi := _) (v := ?_) rfl (by kernel_rfl) (by kernel_rfl) (by kernel_rfl) (fun _ _ _ h => h) (Or.inl ⟨by rfl, ?_⟩) (by assumption) ?_
    rotate_left
    focus (intro wS hSw; (try dsimp only at hSw); go_simp; (try with_reducible rfl))
    try simp only [Act.put, List.getElem_toArray, List.getElem_cons_zero, List.getElem_cons_succ, List.setIfInBounds_toArray, List.set_cons_zero, List.set_cons_succ]
    refine wpAnyH_take (i := 21) (oi := _) (v := ?_) rfl (by kernel_rfl) (by kernel_rfl) (by kernel_rfl) (fun _ _ _ h => h) (Or.inl ⟨by rfl, ?_⟩) (by assumption) ?_
    rotate_left
    focus (intro wS hSw; (try dsimp only at hSw); go_simp; (try with_reducible rfl))
    try simp only [Act.put, List.getElem_toArray, List.getElem_cons_zero, List.getElem_cons_succ, List.setIfInBounds_toArray, List.set_cons_zero, List.set_cons_succ]
    refine wpAnyH_ready (rs := [15]) (by kernel_rfl) (by simp) (AllReadyH.cons (o := _) rfl (fun K hK => ?_) AllReadyH.nil)
    go_simp
    go_at_call 11
    refine (rzcheck_any _ _ _ _ _ _ xl _ _ _ yl _ _ _ _ (H120.out.oldTps HXT.out) (H120.out.oldTps HYT.out)).mono ?_
    rintro e w122 ⟨rfl, hb⟩
    have H123 := hid (H120.out.call hb)
    clear hb
    obtain ⟨c124, hc124⟩ : ∃ xx', rzCode sw sh sm xl yl s1 s2 so = xx' := ⟨_, rfl⟩
    rw [hc124]
    have HNc124 := hid hc124
    clear hc124
    refine hK.out _ _ ?_ (fun hHeld2 => ?_)
    focus ((try dsimp only); (exact ⟨H123.out.cell 1 rfl 0 rfl, H123.out.cell 1 rfl 1 rfl, H123.out.cell 1 rfl 2 rfl⟩))
    clear hK K
    try simp only [Act.put, List.getElem_toArray, List.getElem_cons_zero, List.getElem_cons_succ, List.setIfInBounds_toArray, List.set_cons_zero, List.set_cons_succ]
    clear hHeld
    have hHeld := hHeld2
    clear hHeld2
    refine wpAnyH_ready (rs := [22]) (by kernel_rfl) (by simp) (AllReadyH.cons (o := _) rfl (fun K hK => ?_) AllReadyH.nil)
    go_simp
    go_at_call 12
    refine (rrzcheck_any _ _ _ _ _ _ xl _ _ _ yl _ _ _ _ (H123.out.oldTps HXT.out) (H123.out.oldTps HYT.out)).mono ?_
    rintro e w125 ⟨rfl, hb⟩
    have H126 := hid (H123.out.call hb)
    clear hb
    rw [HNc124.out]
    refine hK.out _ _ ?_ (fun hHeld2 => ?_)
    focus ((try dsimp only); (exact ⟨H126.out.cell 1 rfl 0 rfl, H126.out.cell 1 rfl 1 rfl, H126.out.cell 1 rfl 2 rfl⟩))
    clear hK K
    try simp only [Act.put, List.getElem_toArray, List.getElem_cons_zero, List.getElem_cons_succ, List.setIfInBounds_toArray, List.set_cons_zero, List.set_cons_succ]
    clear hHeld
    have hHeld := hHeld2
    clear hHeld2
    refine wpAnyH_take (i := 23) (oi := _) (v := ?_) rfl (by kernel_rfl) (by kernel_rfl) (by kernel_rfl) (fun _ _ _ h => h) (Or.inl ⟨by rfl, ?_⟩) (by assumption) ?_
    rotate_left
    focus (intro wS hSw; (try dsimp only at hSw); go_simp; (try with_reducible rfl))
    try simp only [Act.put, List.getElem_toArray, List.getElem_cons_zero, List.getElem_cons_succ, List.setIfInBounds_toArray, List.set_cons_zero, List.set_cons_succ]
    refine wpAnyH_take (i := 24) (oi := _) (v := ?_) rfl (by kernel_rfl) (by kernel_rfl) (by kernel_rfl) (fun _ _ _ h => h) (Or.inl ⟨by rfl, ?_⟩) (by assumption) ?_
    rotate_left
    focus (intro wS hSw; (try dsimp only at hSw); go_simp; (try with_reducible rfl))
    try simp only [Act.put, List.getElem_toArray, List.getElem_cons_zero, List.getElem_cons_succ, List.setIfInBounds_toArray, List.set_cons_zero, List.set_cons_succ]
    refine wpAnyH_take (i := 25) (oi := _) (v := ?_) rfl (by kernel_rfl) (by kernel_rfl) (by kernel_rfl) (fun _ _ _ h => h) (Or.inl ⟨by rfl, ?_⟩) (by assumption) ?_
    rotate_left
    focus (intro wS hSw; (try dsimp only at hSw); go_simp; (try with_reducible rfl))
    try simp only [Act.put, List.getElem_toArray, List.getElem_cons_zero, List.getElem_cons_succ, List.setIfInBounds_toArray, List.set_cons_zero, List.set_cons_succ]
    refine wpAnyH_ready (rs := [26]) (by kernel_rfl) (by simp) (AllReadyH.cons (o := _) rfl (fun K hK => ?_) AllReadyH.nil)
    go_simp
    go_at_call 13
    refine (sane11 _).mono ?_
    rintro e w127 ⟨rfl, hb⟩
    have H128 := hid (H126.out.call hb)
    clear hb
    refine hK.out _ _ ?_ (fun hHeld2 => ?_)
    focus ((try dsimp only); (exact ⟨H128.out.cell 1 rfl 0 rfl, H128.out.cell 1 rfl 1 rfl, H128.out.cell 1 rfl 2 rfl⟩))
    clear hK K
    try simp only [Act.put, List.getElem_toArray, List.getElem_cons_zero, List.getElem_cons_succ, List.setIfInBounds_toArray, List.set_cons_zero, List.set_cons_succ]
    clear hHeld
    have hHeld := hHeld2
    clear hHeld2
    refine wpAnyH_take (i := 27) (oi := _) (v := ?_) rfl (by kernel_rfl) (by kernel_rfl) (by kernel_rfl) (fun _ _ _ h => h) (Or.inl ⟨by rfl, ?_⟩) (by assumption) ?_
    rotate_left
    focus (intro wS hSw; (try dsimp only at hSw); go_simp; (try with_reducible rfl))
    try simp only [Act.put, List.getElem_toArray, List.getElem_cons_zero, List.getElem_cons_succ, List.setIfInBounds_toArray, List.set_cons_zero, List.set_cons_succ]
    refine wpAnyH_take (i := 28) (oi := _) (v := ?_) rfl (by kernel_rfl) (by kernel_rfl) (by kernel_rfl) (fun _ _ _ h => h) (Or.inl ⟨by rfl, ?_⟩) (by assumption) ?_
    rotate_left
    focus (intro wS hSw; (try dsimp only at hSw); go_simp; (try with_reducible rfl))
    try simp only [Act.put, List.getElem_toArray, List.getElem_cons_zero, List.getElem_cons_succ, List.setIfInBounds_toArray, List.set_cons_zero, List.set_cons_succ]
    refine wpAnyH_done (by kernel_rfl) ?_ _
    try clear hHeld
    go_wp2_with fail
    go_ret
    exact ⟨rfl, by first | exact H128.out.below | exact H128.out.below'⟩
end Go.Proofs.Ytaefdkinpaonkaa
