/-
  The walk of IeeeScales: scaled values are those of the reference.
-/
import Derived.Test.YtfmahdcnikeaiaaDoorSane6
import Derived.Test.YtfmahdcnikeaiaaDoorKX
namespace Go.Proofs.YtfmahdcnikeaiaaDoor
open Go.RowKit
attribute [local go_sem ↓] Go.wp_at_zero Go.wp_at_succ
set_option linter.unusedVariables false
set_option linter.unusedSimpArgs false

set_option maxRecDepth 100000 in
set_option maxHeartbeats 12800000 in
theorem walk_IeeeScales (a : Option Addr) (n c : Nat) (zs : List Int) (x shift : Int) (W : World) (hr : RowIn .i64 W a n c zs) (hx : U64 x) (_ : I64 shift) (hT : Tab W) :
    Calls Tryd.prog 3 #[.slice a n c, .int .u64 x, .int .i64 shift] W fun e w' => e = .returned (.bool true) ∧ Below W.heap.size W w' := by
  obtain ⟨B, hB⟩ : ∃ B, W.heap.size = B := ⟨_, rfl⟩
  have HI0 := hid (St.init hB)
  have HT := hid hT
  have HB0 := hid (show 0 < B from by rw [← hB]; exact hT.pos)
  clear hT
  have HN := hid (nearRow hr hB)
  have HR := hid hr
  obtain ⟨x1, x2⟩ : 0 ≤ x ∧ x < 18446744073709551616 := ⟨hx.1, by have := hx.2; omega⟩
  clear hr hx
  go_enter Tryd.func3, Tryd.ntmps3
  go_wp2_with fail
  obtain ⟨K1, hK1⟩ : ∃ D, W.heap.size = D := ⟨_, rfl⟩
  refine (newB_any B _ _ _ _ _ HR.out.len (HI0.out.oldRow HR.out.row) HN.out HI0.out.size).mono ?_
  rintro e w2 ⟨rfl, ht, hb, hs⟩
  rw [hK1] at ht ⊢
  have H3 := hid (HI0.out.newTape ht hb hK1)
  clear ht hb hs hK1
  go_wp2_with fail
  go_loopw [8] (fun i wr => ∃ j : Nat, j ≤ 8 ∧ i = .int .i64 j ∧ St B W [.tape K1] [] wr) (fun i _ => 8 - (intOf i).toNat)
  case atStart => exact ⟨0, by omega, rfl, H3.out.pick [0] rfl (by decide)⟩
  case round =>
    obtain ⟨j, hj, rfl, hst⟩ := hrel
    obtain ⟨u4, rfl⟩ : ∃ u4 : World, u4 = wr := ⟨_, rfl⟩
    have H5 := hid hst
    clear hst
    by_cases hj8 : j < 8
    · skip
      have hj8' : (j : Int) < 8 := by omega
      go_wp2_with fail
      refine (bits_any B K1 _ (H5.out.tapeAt 0 rfl)).mono ?_
      rintro e w7 ⟨b6, rfl, ⟨b6a, b6b⟩, htn, hgn⟩
      have H8 := hid (H5.out.next 0 rfl htn hgn)
      clear htn hgn
      go_wp2_with fail
      refine (nextB_any B K1 _ _ (by omega) (H8.out.tapeAt 0 rfl)).mono ?_
      rintro e w10 ⟨x9, rfl, x9a, x9b, htn, hgn, hsn⟩
      have H11 := hid (H8.out.next 0 rfl htn hgn)
      clear htn hgn hsn
      rcases (show (j ≤ 5 ∨ j = 6) ∨ j = 7 by omega) with (hj5 | hj5) | hj5
      · skip
        have hj5' : ¬ ((5 : Int) < j) := by omega
        go_wp2_with fail
        refine (scale_any b6 (x9 - 1) (by omega) _ (HT.out.below (by first | exact H11.out.below' | exact H11.out.below) HB0.out)).mono ?_
        rintro e w12 ⟨rfl, hb⟩
        have H13 := hid (H11.out.call hb)
        clear hb
        obtain ⟨v14, hv14⟩ : ∃ xx', scV b6.toNat (x9 - 1) = xx' := ⟨_, rfl⟩
        rw [hv14]
        have HNv14 := hid hv14
        clear hv14
        obtain ⟨c15, hc15⟩ : ∃ xx', scC b6.toNat (x9 - 1) = xx' := ⟨_, rfl⟩
        rw [hc15]
        have HNc15 := hid hc15
        clear hc15
        go_wp2_with fail
        refine (qscale_any b6 (x9 - 1) (by omega) _).mono ?_
        rintro e w16 ⟨rfl, hb⟩
        have H17 := hid (H13.out.call hb)
        clear hb
        rw [HNv14.out]
        rw [HNc15.out]
        go_wp2_with fail
        go_roundw
        case rel => exact ⟨j + 1, by omega, by go_num, H17.out.pick [0] rfl (by decide)⟩
        case measure => first | (simp [intOf]; omega) | (simp [intOf]; done)
      · skip
        have hj5' : (5 : Int) < j := by omega
        have hj6 : (j : Int) - 6 = 0 := by omega
        have wq : IntKind.i64.wrap 0 = 0 := by decide
        go_upto_region 7 with fail
        have H18 := hid H11.out.drew
        refine wp_region_held_drew (S := (fun _ => True)) (by kernel_rfl) trivial (fun hHeld => ?_)
        generalize w10.drew = k19 at *
        refine wpAnyH_take (i := 0) (oi := _) (v := ?_) rfl (by kernel_rfl) (by kernel_rfl) (by kernel_rfl) (fun _ _ _ h => h) (Or.inl ⟨by rfl, ?_⟩) (by assumption) ?_
        rotate_left
        focus (intro wS hSw; (try dsimp only at hSw); go_simp; (try with_reducible rfl))
        try simp only [Act.put, List.getElem_toArray, List.getElem_cons_zero, List.getElem_cons_succ, List.setIfInBounds_toArray, List.set_cons_zero, List.set_cons_succ]
        refine wpAnyH_take (i := 1) (oi := _) (v := ?_) rfl (by kernel_rfl) (by kernel_rfl) (by kernel_rfl) (fun _ _ _ h => h) (Or.inl ⟨by rfl, ?_⟩) (by assumption) ?_
        rotate_left
        focus (intro wS hSw; (try dsimp only at hSw); go_simp; (try with_reducible rfl))
        try simp only [Act.put, List.getElem_toArray, List.getElem_cons_zero, List.getElem_cons_succ, List.setIfInBounds_toArray, List.set_cons_zero, List.set_cons_succ]
        refine wpAnyH_take (i := 2) (oi := _) (v := ?_) rfl (by kernel_rfl) (by kernel_rfl) (by kernel_rfl) (fun _ _ _ h => h) (Or.inl ⟨by rfl, ?_⟩) (by assumption) ?_
        rotate_left
        focus (intro wS hSw; (try dsimp only at hSw); go_simp; (try with_reducible rfl))
        try simp only [Act.put, List.getElem_toArray, List.getElem_cons_zero, List.getElem_cons_succ, List.setIfInBounds_toArray, List.set_cons_zero, List.set_cons_succ]
        refine wpAnyH_take (i := 5) (oi := _) (v := ?_) rfl (by kernel_rfl) (by kernel_rfl) (by kernel_rfl) (fun _ _ _ h => h) (Or.inl ⟨by rfl, ?_⟩) (by assumption) ?_
        rotate_left
        focus (intro wS hSw; (try dsimp only at hSw); go_simp; (try with_reducible rfl))
        try simp only [Act.put, List.getElem_toArray, List.getElem_cons_zero, List.getElem_cons_succ, List.setIfInBounds_toArray, List.set_cons_zero, List.set_cons_succ]
        refine wpAnyH_take (i := 6) (oi := _) (v := ?_) rfl (by kernel_rfl) (by kernel_rfl) (by kernel_rfl) (fun _ _ _ h => h) (Or.inl ⟨by rfl, ?_⟩) (by assumption) ?_
        rotate_left
        focus (intro wS hSw; (try dsimp only at hSw); go_simp; (try with_reducible rfl))
        try simp only [Act.put, List.getElem_toArray, List.getElem_cons_zero, List.getElem_cons_succ, List.setIfInBounds_toArray, List.set_cons_zero, List.set_cons_succ]
        refine wpAnyH_ready (rs := [3]) (by kernel_rfl) (by simp) (AllReadyH.cons (o := _) rfl (fun K hK => ?_) AllReadyH.nil)
        go_simp
        go_at_call 11
        refine (mod_any _ _ _ (by omega) (by omega)).mono ?_
        rintro e w20 ⟨rfl, hsw⟩
        have hsw2 : k19 = w20 := by first | exact hsw | exact hsw.symm
        clear hsw
        subst hsw2
        obtain ⟨md21, hmd21⟩ : ∃ xx', shift % 25 = xx' := ⟨_, rfl⟩
        rw [hmd21]
        have HNmd21 := hid hmd21
        clear hmd21
        obtain ⟨md21a, md21b⟩ : 0 ≤ md21 ∧ md21 < 25 := by rw [← HNmd21.out]; exact ⟨Int.emod_nonneg _ (by omega), Int.emod_lt_of_pos _ (by omega)⟩
        refine hK.out _ _ ?_ (fun hHeld2 => ?_)
        focus ((try dsimp only); (try exact trivial))
        clear hK K
        try simp only [Act.put, List.getElem_toArray, List.getElem_cons_zero, List.getElem_cons_succ, List.setIfInBounds_toArray, List.set_cons_zero, List.set_cons_succ]
        clear hHeld
        have hHeld := hHeld2
        clear hHeld2
        refine wpAnyH_take (i := 9) (oi := _) (v := ?_) rfl (by kernel_rfl) (by kernel_rfl) (by kernel_rfl) (fun _ _ _ h => h) (Or.inl ⟨by rfl, ?_⟩) (by assumption) ?_
        rotate_left
        focus (intro wS hSw; (try dsimp only at hSw); go_simp; (try with_reducible rfl))
        try simp only [Act.put, List.getElem_toArray, List.getElem_cons_zero, List.getElem_cons_succ, List.setIfInBounds_toArray, List.set_cons_zero, List.set_cons_succ]
        refine wpAnyH_ready (rs := [4]) (by kernel_rfl) (by simp) (AllReadyH.cons (o := _) rfl (fun K hK => ?_) AllReadyH.nil)
        obtain ⟨D22, hD22⟩ : ∃ D, k19.heap.size = D := ⟨_, rfl⟩
        have H23 := hid (H18.out.alloc #[.int .i64 shift, .int .i64 md21] 3 hD22)
        go_simp
        refine hK.out _ _ ?_ (fun hHeld2 => ?_)
        focus ((try dsimp only); (try exact trivial))
        clear hK K hHeld
        try simp only [Act.put, List.getElem_toArray, List.getElem_cons_zero, List.getElem_cons_succ, List.setIfInBounds_toArray, List.set_cons_zero, List.set_cons_succ]
        clear hD22
        generalize (k19.alloc (.cells #[.int .i64 shift, .int .i64 md21] 3)) = k24 at *
        have hHeld := hHeld2
        clear hHeld2
        refine wpAnyH_take (i := 7) (oi := _) (v := ?_) rfl (by kernel_rfl) (by kernel_rfl) (by kernel_rfl) (fun _ _ _ h => h) (Or.inl ⟨by rfl, ?_⟩) (by assumption) ?_
        rotate_left
        focus (intro wS hSw; (try dsimp only at hSw); go_simp; (try with_reducible rfl))
        try simp only [Act.put, List.getElem_toArray, List.getElem_cons_zero, List.getElem_cons_succ, List.setIfInBounds_toArray, List.set_cons_zero, List.set_cons_succ]
        refine wpAnyH_ready (rs := [8]) (by kernel_rfl) (by simp) (AllReadyH.cons (o := _) rfl (fun K hK => ?_) AllReadyH.nil)
        have g25 := H23.out.cell 0 rfl 0 rfl
        go_simp
        refine hK.out _ _ ?_ (fun hHeld2 => ?_)
        focus ((try dsimp only); (try exact hHeld))
        clear hK K
        try simp only [Act.put, List.getElem_toArray, List.getElem_cons_zero, List.getElem_cons_succ, List.setIfInBounds_toArray, List.set_cons_zero, List.set_cons_succ]
        clear hHeld2 g25
        refine wpAnyH_take (i := 10) (oi := _) (v := ?_) rfl (by kernel_rfl) (by kernel_rfl) (by kernel_rfl) (fun _ _ _ h => h) (Or.inl ⟨by rfl, ?_⟩) (by assumption) ?_
        rotate_left
        focus (intro wS hSw; (try dsimp only at hSw); go_simp; (try with_reducible rfl))
        try simp only [Act.put, List.getElem_toArray, List.getElem_cons_zero, List.getElem_cons_succ, List.setIfInBounds_toArray, List.set_cons_zero, List.set_cons_succ]
        refine wpAnyH_done (by kernel_rfl) ?_ _
        try clear hHeld
        go_wp2_with fail
        refine (scale_any x shift (by omega) _ (HT.out.below (by first | exact H23.out.below' | exact H23.out.below) HB0.out)).mono ?_
        rintro e w26 ⟨rfl, hb⟩
        have H27 := hid (H23.out.call hb)
        clear hb
        obtain ⟨v28, hv28⟩ : ∃ xx', scV x.toNat shift = xx' := ⟨_, rfl⟩
        rw [hv28]
        have HNv28 := hid hv28
        clear hv28
        obtain ⟨c29, hc29⟩ : ∃ xx', scC x.toNat shift = xx' := ⟨_, rfl⟩
        rw [hc29]
        have HNc29 := hid hc29
        clear hc29
        go_wp2_with fail
        refine (qscale_any x shift (by omega) _).mono ?_
        rintro e w30 ⟨rfl, hb⟩
        have H31 := hid (H27.out.call hb)
        clear hb
        rw [HNv28.out]
        rw [HNc29.out]
        go_wp2_with fail
        go_roundw
        case rel => exact ⟨j + 1, by omega, by go_num, H31.out.pick [1] rfl (by decide)⟩
        case measure => first | (simp [intOf]; omega) | (simp [intOf]; done)
      · skip
        have hj5' : (5 : Int) < j := by omega
        have hj6 : (j : Int) - 6 = 1 := by omega
        have wq : IntKind.i64.wrap 1 = 1 := by decide
        go_upto_region 7 with fail
        have H32 := hid H11.out.drew
        refine wp_region_held_drew (S := (fun _ => True)) (by kernel_rfl) trivial (fun hHeld => ?_)
        generalize w10.drew = k33 at *
        refine wpAnyH_take (i := 0) (oi := _) (v := ?_) rfl (by kernel_rfl) (by kernel_rfl) (by kernel_rfl) (fun _ _ _ h => h) (Or.inl ⟨by rfl, ?_⟩) (by assumption) ?_
        rotate_left
        focus (intro wS hSw; (try dsimp only at hSw); go_simp; (try with_reducible rfl))
        try simp only [Act.put, List.getElem_toArray, List.getElem_cons_zero, List.getElem_cons_succ, List.setIfInBounds_toArray, List.set_cons_zero, List.set_cons_succ]
        refine wpAnyH_take (i := 1) (oi := _) (v := ?_) rfl (by kernel_rfl) (by kernel_rfl) (by kernel_rfl) (fun _ _ _ h => h) (Or.inl ⟨by rfl, ?_⟩) (by assumption) ?_
        rotate_left
        focus (intro wS hSw; (try dsimp only at hSw); go_simp; (try with_reducible rfl))
        try simp only [Act.put, List.getElem_toArray, List.getElem_cons_zero, List.getElem_cons_succ, List.setIfInBounds_toArray, List.set_cons_zero, List.set_cons_succ]
        refine wpAnyH_take (i := 2) (oi := _) (v := ?_) rfl (by kernel_rfl) (by kernel_rfl) (by kernel_rfl) (fun _ _ _ h => h) (Or.inl ⟨by rfl, ?_⟩) (by assumption) ?_
        rotate_left
        focus (intro wS hSw; (try dsimp only at hSw); go_simp; (try with_reducible rfl))
        try simp only [Act.put, List.getElem_toArray, List.getElem_cons_zero, List.getElem_cons_succ, List.setIfInBounds_toArray, List.set_cons_zero, List.set_cons_succ]
        refine wpAnyH_take (i := 5) (oi := _) (v := ?_) rfl (by kernel_rfl) (by kernel_rfl) (by kernel_rfl) (fun _ _ _ h => h) (Or.inl ⟨by rfl, ?_⟩) (by assumption) ?_
        rotate_left
        focus (intro wS hSw; (try dsimp only at hSw); go_simp; (try with_reducible rfl))
        try simp only [Act.put, List.getElem_toArray, List.getElem_cons_zero, List.getElem_cons_succ, List.setIfInBounds_toArray, List.set_cons_zero, List.set_cons_succ]
        refine wpAnyH_take (i := 6) (oi := _) (v := ?_) rfl (by kernel_rfl) (by kernel_rfl) (by kernel_rfl) (fun _ _ _ h => h) (Or.inl ⟨by rfl, ?_⟩) (by assumption) ?_
        rotate_left
        focus (intro wS hSw; (try dsimp only at hSw); go_simp; (try with_reducible rfl))
        try simp only [Act.put, List.getElem_toArray, List.getElem_cons_zero, List.getElem_cons_succ, List.setIfInBounds_toArray, List.set_cons_zero, List.set_cons_succ]
        refine wpAnyH_ready (rs := [3]) (by kernel_rfl) (by simp) (AllReadyH.cons (o := _) rfl (fun K hK => ?_) AllReadyH.nil)
        go_simp
        go_at_call 11
        refine (mod_any _ _ _ (by omega) (by omega)).mono ?_
        rintro e w34 ⟨rfl, hsw⟩
        have hsw2 : k33 = w34 := by first | exact hsw | exact hsw.symm
        clear hsw
        subst hsw2
        obtain ⟨md35, hmd35⟩ : ∃ xx', shift % 25 = xx' := ⟨_, rfl⟩
        rw [hmd35]
        have HNmd35 := hid hmd35
        clear hmd35
        obtain ⟨md35a, md35b⟩ : 0 ≤ md35 ∧ md35 < 25 := by rw [← HNmd35.out]; exact ⟨Int.emod_nonneg _ (by omega), Int.emod_lt_of_pos _ (by omega)⟩
        refine hK.out _ _ ?_ (fun hHeld2 => ?_)
        focus ((try dsimp only); (try exact trivial))
        clear hK K
        try simp only [Act.put, List.getElem_toArray, List.getElem_cons_zero, List.getElem_cons_succ, List.setIfInBounds_toArray, List.set_cons_zero, List.set_cons_succ]
        clear hHeld
        have hHeld := hHeld2
        clear hHeld2
        refine wpAnyH_take (i := 9) (oi := _) (v := ?_) rfl (by kernel_rfl) (by kernel_rfl) (by kernel_rfl) (fun _ _ _ h => h) (Or.inl ⟨by rfl, ?_⟩) (by assumption) ?_
        rotate_left
        focus (intro wS hSw; (try dsimp only at hSw); go_simp; (try with_reducible rfl))
        try simp only [Act.put, List.getElem_toArray, List.getElem_cons_zero, List.getElem_cons_succ, List.setIfInBounds_toArray, List.set_cons_zero, List.set_cons_succ]
        refine wpAnyH_ready (rs := [4]) (by kernel_rfl) (by simp) (AllReadyH.cons (o := _) rfl (fun K hK => ?_) AllReadyH.nil)
        obtain ⟨D36, hD36⟩ : ∃ D, k33.heap.size = D := ⟨_, rfl⟩
        have H37 := hid (H32.out.alloc #[.int .i64 shift, .int .i64 md35] 3 hD36)
        go_simp
        refine hK.out _ _ ?_ (fun hHeld2 => ?_)
        focus ((try dsimp only); (try exact trivial))
        clear hK K hHeld
        try simp only [Act.put, List.getElem_toArray, List.getElem_cons_zero, List.getElem_cons_succ, List.setIfInBounds_toArray, List.set_cons_zero, List.set_cons_succ]
        clear hD36
        generalize (k33.alloc (.cells #[.int .i64 shift, .int .i64 md35] 3)) = k38 at *
        have hHeld := hHeld2
        clear hHeld2
        refine wpAnyH_take (i := 7) (oi := _) (v := ?_) rfl (by kernel_rfl) (by kernel_rfl) (by kernel_rfl) (fun _ _ _ h => h) (Or.inl ⟨by rfl, ?_⟩) (by assumption) ?_
        rotate_left
        focus (intro wS hSw; (try dsimp only at hSw); go_simp; (try with_reducible rfl))
        try simp only [Act.put, List.getElem_toArray, List.getElem_cons_zero, List.getElem_cons_succ, List.setIfInBounds_toArray, List.set_cons_zero, List.set_cons_succ]
        refine wpAnyH_ready (rs := [8]) (by kernel_rfl) (by simp) (AllReadyH.cons (o := _) rfl (fun K hK => ?_) AllReadyH.nil)
        have g39 := H37.out.cell 0 rfl 1 rfl
        go_simp
        refine hK.out _ _ ?_ (fun hHeld2 => ?_)
        focus ((try dsimp only); (try exact hHeld))
        clear hK K
        try simp only [Act.put, List.getElem_toArray, List.getElem_cons_zero, List.getElem_cons_succ, List.setIfInBounds_toArray, List.set_cons_zero, List.set_cons_succ]
        clear hHeld2 g39
        refine wpAnyH_take (i := 10) (oi := _) (v := ?_) rfl (by kernel_rfl) (by kernel_rfl) (by kernel_rfl) (fun _ _ _ h => h) (Or.inl ⟨by rfl, ?_⟩) (by assumption) ?_
        rotate_left
        focus (intro wS hSw; (try dsimp only at hSw); go_simp; (try with_reducible rfl))
        try simp only [Act.put, List.getElem_toArray, List.getElem_cons_zero, List.getElem_cons_succ, List.setIfInBounds_toArray, List.set_cons_zero, List.set_cons_succ]
        refine wpAnyH_done (by kernel_rfl) ?_ _
        try clear hHeld
        go_wp2_with fail
        refine (scale_any x md35 (by omega) _ (HT.out.below (by first | exact H37.out.below' | exact H37.out.below) HB0.out)).mono ?_
        rintro e w40 ⟨rfl, hb⟩
        have H41 := hid (H37.out.call hb)
        clear hb
        obtain ⟨v42, hv42⟩ : ∃ xx', scV x.toNat md35 = xx' := ⟨_, rfl⟩
        rw [hv42]
        have HNv42 := hid hv42
        clear hv42
        obtain ⟨c43, hc43⟩ : ∃ xx', scC x.toNat md35 = xx' := ⟨_, rfl⟩
        rw [hc43]
        have HNc43 := hid hc43
        clear hc43
        go_wp2_with fail
        refine (qscale_any x md35 (by omega) _).mono ?_
        rintro e w44 ⟨rfl, hb⟩
        have H45 := hid (H41.out.call hb)
        clear hb
        rw [HNv42.out]
        rw [HNc43.out]
        go_wp2_with fail
        go_roundw
        case rel => exact ⟨j + 1, by omega, by go_num, H45.out.pick [1] rfl (by decide)⟩
        case measure => first | (simp [intOf]; omega) | (simp [intOf]; done)
    · skip
      have hj8' : ¬ ((j : Int) < 8) := by omega
      go_wp2_with fail
      refine (sane6 _ (HT.out.below (by first | exact H5.out.below' | exact H5.out.below) HB0.out)).mono ?_
      rintro e w46 ⟨rfl, hb⟩
      have H47 := hid (H5.out.call hb)
      clear hb
      go_wp2_with fail
      go_ret
      exact ⟨rfl, by first | exact H47.out.below | exact H47.out.below'⟩
end Go.Proofs.YtfmahdcnikeaiaaDoor
