/-
  The walk of PlaneShares: results are new memory.
-/
import Derived.Test.YtoojiabdgaflgaaSane4
import Derived.Test.YtoojiabdgaflgaaTRect
import Derived.Test.YtoojiabdgaflgaaNear
import Derived.Test.YtoojiabdgaflgaaPlaneLaw
namespace Go.Proofs.Ytoojiabdgaflgaa
open Go.RowKit
attribute [local go_sem ↓] Go.wp_at_zero Go.wp_at_succ
set_option linter.unusedVariables false
set_option linter.unusedSimpArgs false

set_option maxRecDepth 100000 in
set_option maxHeartbeats 12800000 in
theorem walk_PlaneShares (a : Option Addr) (n c : Nat) (zs : List Int) (W : World) (hr : RowIn .i64 W a n c zs) :
    Calls Try.prog 12 #[.slice a n c] W fun e w' => e = .returned (.bool true) ∧ Below W.heap.size W w' := by
  obtain ⟨B, hB⟩ : ∃ B, W.heap.size = B := ⟨_, rfl⟩
  have HI0 := hid (St.init hB)
  have HN := hid (nearRow hr hB)
  have HR := hid hr
  clear hr
  go_enter Try.func12, Try.ntmps12
  go_wp2_with fail
  obtain ⟨K1, hK1⟩ : ∃ D, W.heap.size = D := ⟨_, rfl⟩
  refine (newB_any B _ _ _ _ _ HR.out.len (HI0.out.oldRow HR.out.row) HN.out HI0.out.size).mono ?_
  rintro e w2 ⟨rfl, ht, hb, hs⟩
  rw [hK1] at ht ⊢
  have H3 := hid (HI0.out.newTape ht hb hK1)
  clear ht hb hs hK1
  go_wp2_with fail
  refine (nextB_any B K1 _ _ (by omega) (H3.out.tapeAt 0 rfl)).mono ?_
  rintro e w5 ⟨x4, rfl, x4a, x4b, htn, hgn, hsn⟩
  have H6 := hid (H3.out.next 0 rfl htn hgn)
  clear htn hgn hsn
  go_wp2_with fail
  refine (nextB_any B K1 _ _ (by omega) (H6.out.tapeAt 0 rfl)).mono ?_
  rintro e w8 ⟨x7, rfl, x7a, x7b, htn, hgn, hsn⟩
  have H9 := hid (H6.out.next 0 rfl htn hgn)
  clear htn hgn hsn
  go_wp2_with fail
  refine (sized_any B K1 _ _ _ (by omega) (by omega) (by omega) (by omega) (H9.out.tapeAt 0 rfl)).mono ?_
  rintro e w11 ⟨pm10, pv10, ps10, rfl, hv, hm, ho, ht, hg⟩
  have H12 := hid (H9.out.add (H9.out.next 0 rfl ht hg) ho)
  obtain ⟨pw10, hpw10⟩ : ∃ z, 2 + x4 = z := ⟨_, rfl⟩
  rw [hpw10] at hv ⊢
  have Hpw10 := hid hpw10
  obtain ⟨pw101, pw102⟩ : 1 ≤ pw10 ∧ pw10 ≤ 12 := by omega
  clear hpw10
  obtain ⟨ph10, hph10⟩ : ∃ z, 2 + x7 = z := ⟨_, rfl⟩
  rw [hph10] at hv ⊢
  have Hph10 := hid hph10
  obtain ⟨ph101, ph102⟩ : 1 ≤ ph10 ∧ ph10 ≤ 12 := by omega
  clear hph10
  have HVps10 := hid hv
  have HMps10 := hid hm
  obtain ⟨pv10a, pv10c, rfl, _⟩ := ho.slc
  clear hv hm ho ht hg
  obtain ⟨D13, hD13⟩ : ∃ D, w11.heap.size = D := ⟨_, rfl⟩
  go_upto_region 3 with fail
  have H14 := hid (show St B W [.cells D13 #[.int .i64 pw10, .int .i64 ph10, .int .i64 pm10, .slice pv10a ps10.length pv10c] 26, .own (.slice pv10a ps10.length pv10c) ps10, .tape K1] [] (w11.alloc (.cells #[.int .i64 pw10, .int .i64 ph10, .int .i64 pm10, .slice pv10a ps10.length pv10c] 26)) from (H12.out.alloc #[.int .i64 pw10, .int .i64 ph10, .int .i64 pm10, .slice pv10a ps10.length pv10c] 26 hD13))
  first | refine gen_code H14.out ?_ | refine gen_list H14.out ?_ | refine gen_calls H14.out ?_
  intro w15 hG
  clear H14
  have H14 := hid hG
  clear hG
  clear hD13
  go_wp2_with fail
  refine (sized_any B K1 _ _ _ (by omega) (by omega) (by omega) (by omega) (H14.out.tapeAt 2 rfl)).mono ?_
  rintro e w17 ⟨pm16, pv16, ps16, rfl, hv, hm, ho, ht, hg⟩
  have H18 := hid (H14.out.add (H14.out.next 2 rfl ht hg) ho)
  have HVps16 := hid hv
  have HMps16 := hid hm
  obtain ⟨pv16a, pv16c, rfl, _⟩ := ho.slc
  clear hv hm ho ht hg
  obtain ⟨D19, hD19⟩ : ∃ D, w17.heap.size = D := ⟨_, rfl⟩
  go_upto_region 4 with fail
  have H20 := hid (show St B W [.cells D19 #[.int .i64 1, .int .i64 1, .int .i64 pm16, .slice pv16a ps16.length pv16c] 26, .own (.slice pv16a ps16.length pv16c) ps16, .cells D13 #[.int .i64 pw10, .int .i64 ph10, .int .i64 pm10, .slice pv10a ps10.length pv10c] 26, .own (.slice pv10a ps10.length pv10c) ps10, .tape K1] [] (w17.alloc (.cells #[.int .i64 1, .int .i64 1, .int .i64 pm16, .slice pv16a ps16.length pv16c] 26)) from (H18.out.alloc #[.int .i64 1, .int .i64 1, .int .i64 pm16, .slice pv16a ps16.length pv16c] 26 hD19))
  first | refine gen_code H20.out ?_ | refine gen_list H20.out ?_ | refine gen_calls H20.out ?_
  intro w21 hG
  clear H20
  have H20 := hid hG
  clear hG
  clear hD19
  have z22 := H20.out.cell 2 rfl 0 rfl
  have z23 := H20.out.cell 2 rfl 1 rfl
  have z24 := H20.out.cell 2 rfl 2 rfl
  have z25 := H20.out.cell 2 rfl 3 rfl
  go_wp2_with fail
  clear z22 z23 z24 z25
  have hvl := valid_len HVps10.out
  refine (qcopy_any _ _ _ _ _ _ ps10 _ (H20.out.slc 3 rfl) hvl.1 (by omega)).mono ?_
  rintro e w26 ⟨v27, rfl, ho, hb⟩
  have H28 := hid (H20.out.grow hb ho)
  obtain ⟨v27a, v27c, rfl, _⟩ := ho.slc
  clear ho hb hvl
  obtain ⟨D29, hD29⟩ : ∃ D, w26.heap.size = D := ⟨_, rfl⟩
  go_upto_region 5 with fail
  have H30 := hid (show St B W [.cells D29 #[.int .i64 pw10, .int .i64 ph10, .int .i64 pm10, .slice v27a ps10.length v27c] 26, .own (.slice v27a ps10.length v27c) ps10, .cells D19 #[.int .i64 1, .int .i64 1, .int .i64 pm16, .slice pv16a ps16.length pv16c] 26, .own (.slice pv16a ps16.length pv16c) ps16, .cells D13 #[.int .i64 pw10, .int .i64 ph10, .int .i64 pm10, .slice pv10a ps10.length pv10c] 26, .own (.slice pv10a ps10.length pv10c) ps10, .tape K1] [] (w26.alloc (.cells #[.int .i64 pw10, .int .i64 ph10, .int .i64 pm10, .slice v27a ps10.length v27c] 26)) from (H28.out.alloc #[.int .i64 pw10, .int .i64 ph10, .int .i64 pm10, .slice v27a ps10.length v27c] 26 hD29))
  first | refine gen_code H30.out ?_ | refine gen_list H30.out ?_ | refine gen_calls H30.out ?_
  intro w31 hG
  clear H30
  have H30 := hid hG
  clear hG
  clear hD29
  have z32 := H30.out.cell 4 rfl 0 rfl
  have z33 := H30.out.cell 4 rfl 1 rfl
  have z34 := H30.out.cell 4 rfl 2 rfl
  have z35 := H30.out.cell 4 rfl 3 rfl
  go_wp2_with fail
  clear z32 z33 z34 z35
  refine (within_any B K1 _ _ _ (by omega) (by omega) (by omega) (by omega) (H30.out.tapeAt 6 rfl)).mono ?_
  rintro e w37 ⟨q36_0, q36_1, q36_2, q36_3, rfl, hq36, ht, hg⟩
  have H38 := hid (H30.out.next 6 rfl ht hg)
  have HWq36 := hid hq36
  clear hq36 ht hg
  obtain ⟨D39, hD39⟩ : ∃ D, w37.heap.size = D := ⟨_, rfl⟩
  go_upto_region 6 with fail
  have H40 := hid (show St B W [.cells D39 #[.int .i64 q36_0, .int .i64 q36_1, .int .i64 q36_2, .int .i64 q36_3] 39, .cells D29 #[.int .i64 pw10, .int .i64 ph10, .int .i64 pm10, .slice v27a ps10.length v27c] 26, .own (.slice v27a ps10.length v27c) ps10, .cells D19 #[.int .i64 1, .int .i64 1, .int .i64 pm16, .slice pv16a ps16.length pv16c] 26, .own (.slice pv16a ps16.length pv16c) ps16, .cells D13 #[.int .i64 pw10, .int .i64 ph10, .int .i64 pm10, .slice pv10a ps10.length pv10c] 26, .own (.slice pv10a ps10.length pv10c) ps10, .tape K1] [] (w37.alloc (.cells #[.int .i64 q36_0, .int .i64 q36_1, .int .i64 q36_2, .int .i64 q36_3] 39)) from (H38.out.alloc #[.int .i64 q36_0, .int .i64 q36_1, .int .i64 q36_2, .int .i64 q36_3] 39 hD39))
  first | refine gen_code H40.out ?_ | refine gen_list H40.out ?_ | refine gen_calls H40.out ?_
  intro w41 hG
  clear H40
  have H40 := hid hG
  clear hG
  clear hD39
  have z42 := H40.out.cell 5 rfl 0 rfl
  have z43 := H40.out.cell 5 rfl 1 rfl
  have z44 := H40.out.cell 5 rfl 2 rfl
  have z45 := H40.out.cell 5 rfl 3 rfl
  have z46 := H40.out.cell 0 rfl 0 rfl
  have z47 := H40.out.cell 0 rfl 1 rfl
  have z48 := H40.out.cell 0 rfl 2 rfl
  have z49 := H40.out.cell 0 rfl 3 rfl
  go_wp2_with fail
  clear z42 z43 z44 z45 z46 z47 z48 z49
  refine (pcrop_any _ _ _ _ _ _ ps10 _ _ _ _ _ (H40.out.slc 6 rfl)).mono ?_
  rintro e w50 ⟨v51, rfl, ho, hb⟩
  have hcv := crop_ok HVps10.out HWq36.out
  have hci : ∀ z, cIf pw10 ph10 pm10 ps10 q36_0 q36_1 q36_2 q36_3 z = z := fun z => by unfold cIf; rw [if_pos hcv]
  have hcl : cList pw10 ph10 pm10 ps10 q36_0 q36_1 q36_2 q36_3 = cAll pw10 ps10 q36_0 q36_1 q36_2 q36_3 := by unfold cList; rw [if_pos hcv]
  simp only [hci, hcv]
  rw [hcl] at ho
  clear hci hcl hcv
  obtain ⟨l53, hl53⟩ : ∃ z, cAll pw10 ps10 q36_0 q36_1 q36_2 q36_3 = z := ⟨_, rfl⟩
  rw [hl53] at ho
  have HNl53 := hid hl53
  clear hl53
  obtain ⟨cw54, hcw54⟩ : ∃ z, q36_2 - q36_0 = z := ⟨_, rfl⟩
  rw [hcw54]
  have HNcw54 := hid hcw54
  clear hcw54
  obtain ⟨ch55, hch55⟩ : ∃ z, q36_3 - q36_1 = z := ⟨_, rfl⟩
  rw [hch55]
  have HNch55 := hid hch55
  clear hch55
  have HVl53 := hid (show pValid cw54 ch55 pm10 l53 = true from by rw [← HNcw54.out, ← HNch55.out, ← HNl53.out]; exact crop_valid HVps10.out HWq36.out)
  have H52 := hid (H40.out.grow hb ho)
  obtain ⟨v51a, v51c, rfl, _⟩ := ho.slc
  clear ho hb
  obtain ⟨D56, hD56⟩ : ∃ D, w50.heap.size = D := ⟨_, rfl⟩
  go_upto_region 7 with fail
  have H57 := hid (show St B W [.cells D56 #[.int .i64 cw54, .int .i64 ch55, .int .i64 pm10, .slice v51a l53.length v51c] 26, .own (.slice v51a l53.length v51c) l53, .cells D39 #[.int .i64 q36_0, .int .i64 q36_1, .int .i64 q36_2, .int .i64 q36_3] 39, .cells D29 #[.int .i64 pw10, .int .i64 ph10, .int .i64 pm10, .slice v27a ps10.length v27c] 26, .own (.slice v27a ps10.length v27c) ps10, .cells D19 #[.int .i64 1, .int .i64 1, .int .i64 pm16, .slice pv16a ps16.length pv16c] 26, .own (.slice pv16a ps16.length pv16c) ps16, .cells D13 #[.int .i64 pw10, .int .i64 ph10, .int .i64 pm10, .slice pv10a ps10.length pv10c] 26, .own (.slice pv10a ps10.length pv10c) ps10, .tape K1] [] (w50.alloc (.cells #[.int .i64 cw54, .int .i64 ch55, .int .i64 pm10, .slice v51a l53.length v51c] 26)) from (H52.out.alloc #[.int .i64 cw54, .int .i64 ch55, .int .i64 pm10, .slice v51a l53.length v51c] 26 hD56))
  first | refine gen_code H57.out ?_ | refine gen_list H57.out ?_ | refine gen_calls H57.out ?_
  intro w58 hG
  clear H57
  have H57 := hid hG
  clear hG
  clear hD56
  go_cut [10, 11] (fun s1 s2 wx => ∃ (DD : Nat) (ba : Option Addr) (bc : Nat) (lb : List Int), s1 = .pointer (some ⟨DD, 0, none⟩) ∧ s2 = .bool true ∧ St B W [.cells DD #[.int .i64 pw10, .int .i64 ph10, .int .i64 pm10, .slice ba lb.length bc] 26, .own (.slice ba lb.length bc) lb, .cells D56 #[.int .i64 cw54, .int .i64 ch55, .int .i64 pm10, .slice v51a l53.length v51c] 26, .own (.slice v51a l53.length v51c) l53, .cells D39 #[.int .i64 q36_0, .int .i64 q36_1, .int .i64 q36_2, .int .i64 q36_3] 39, .cells D29 #[.int .i64 pw10, .int .i64 ph10, .int .i64 pm10, .slice v27a ps10.length v27c] 26, .own (.slice v27a ps10.length v27c) ps10, .cells D19 #[.int .i64 1, .int .i64 1, .int .i64 pm16, .slice pv16a ps16.length pv16c] 26, .own (.slice pv16a ps16.length pv16c) ps16, .cells D13 #[.int .i64 pw10, .int .i64 ph10, .int .i64 pm10, .slice pv10a ps10.length pv10c] 26, .own (.slice pv10a ps10.length pv10c) ps10, .tape K1] [] wx)
  case first =>
    go_upto_region 7 with fail
    have H59 := hid H57.out.drew
    refine wp_region_held_drew (S := (fun w' => w'.cell? ⟨D13, 0, none⟩ = some (.int .i64 pw10) ∧ w'.cell? ⟨D13, 1, none⟩ = some (.int .i64 ph10) ∧ w'.cell? ⟨D13, 2, none⟩ = some (.int .i64 pm10) ∧ w'.cell? ⟨D13, 3, none⟩ = some (.slice pv10a ps10.length pv10c) ∧ w'.cell? ⟨D56, 0, none⟩ = some (.int .i64 cw54) ∧ w'.cell? ⟨D56, 1, none⟩ = some (.int .i64 ch55) ∧ w'.cell? ⟨D56, 2, none⟩ = some (.int .i64 pm10) ∧ w'.cell? ⟨D56, 3, none⟩ = some (.slice v51a l53.length v51c) ∧ w'.cell? ⟨D39, 0, none⟩ = some (.int .i64 q36_0) ∧ w'.cell? ⟨D39, 1, none⟩ = some (.int .i64 q36_1) ∧ w'.cell? ⟨D39, 2, none⟩ = some (.int .i64 q36_2) ∧ w'.cell? ⟨D39, 3, none⟩ = some (.int .i64 q36_3))) (by kernel_rfl) ⟨H59.out.cell 7 rfl 0 rfl, H59.out.cell 7 rfl 1 rfl, H59.out.cell 7 rfl 2 rfl, H59.out.cell 7 rfl 3 rfl, H59.out.cell 0 rfl 0 rfl, H59.out.cell 0 rfl 1 rfl, H59.out.cell 0 rfl 2 rfl, H59.out.cell 0 rfl 3 rfl, H59.out.cell 2 rfl 0 rfl, H59.out.cell 2 rfl 1 rfl, H59.out.cell 2 rfl 2 rfl, H59.out.cell 2 rfl 3 rfl⟩ (fun hHeld => ?_)
    generalize w58.drew = k60 at *
    refine wpAnyH_take (i := 0) (oi := _) (v := ?_) rfl (by kernel_rfl) (by kernel_rfl) (by kernel_rfl) (fun _ _ _ h => h) (Or.inl ⟨by rfl, ?_⟩) (by assumption) ?_
    rotate_left
    focus (intro wS hSw; (try dsimp only at hSw); go_simp; (try with_reducible rfl))
    try simp only [Act.put, List.getElem_toArray, List.getElem_cons_zero, List.getElem_cons_succ, List.setIfInBounds_toArray, List.set_cons_zero, List.set_cons_succ]
    refine wpAnyH_take (i := 1) (oi := _) (v := ?_) rfl (by kernel_rfl) (by kernel_rfl) (by kernel_rfl) (fun _ _ _ h => h) (Or.inl ⟨by rfl, ?_⟩) (by assumption) ?_
    rotate_left
    focus (intro wS hSw; (try dsimp only at hSw); go_simp; (try with_reducible rfl))
    try simp only [Act.put, List.getElem_toArray, List.getElem_cons_zero, List.getElem_cons_succ, List.setIfInBounds_toArray, List.set_cons_zero, List.set_cons_succ]
    refine wpAnyH_take (i := 3) (oi := _) (v := ?_) rfl (by kernel_rfl) (by kernel_rfl) (by kernel_rfl) (fun _ _ _ h => h) (Or.inl ⟨by rfl, ?_⟩) (by assumption) ?_
    rotate_left
    focus (intro wS hSw; (try dsimp only at hSw); go_simp; (try with_reducible rfl))
    try simp only [Act.put, List.getElem_toArray, List.getElem_cons_zero, List.getElem_cons_succ, List.setIfInBounds_toArray, List.set_cons_zero, List.set_cons_succ]
    refine wpAnyH_take (i := 4) (oi := _) (v := ?_) rfl (by kernel_rfl) (by kernel_rfl) (by kernel_rfl) (fun _ _ _ h => h) (Or.inl ⟨by rfl, ?_⟩) (by assumption) ?_
    rotate_left
    focus (intro wS hSw; (try dsimp only at hSw); go_simp; (try with_reducible rfl))
    try simp only [Act.put, List.getElem_toArray, List.getElem_cons_zero, List.getElem_cons_succ, List.setIfInBounds_toArray, List.set_cons_zero, List.set_cons_succ]
    refine wpAnyH_take (i := 5) (oi := _) (v := ?_) rfl (by kernel_rfl) (by kernel_rfl) (by kernel_rfl) (fun _ _ _ h => h) (Or.inl ⟨by rfl, ?_⟩) (by assumption) ?_
    rotate_left
    focus (intro wS hSw; (try dsimp only at hSw); go_simp; (try with_reducible rfl))
    try simp only [Act.put, List.getElem_toArray, List.getElem_cons_zero, List.getElem_cons_succ, List.setIfInBounds_toArray, List.set_cons_zero, List.set_cons_succ]
    refine wpAnyH_take (i := 6) (oi := _) (v := ?_) rfl (by kernel_rfl) (by kernel_rfl) (by kernel_rfl) (fun _ _ _ h => h) (Or.inl ⟨by rfl, ?_⟩) (by assumption) ?_
    rotate_left
    focus (intro wS hSw; (try dsimp only at hSw); go_simp; (try with_reducible rfl))
    try simp only [Act.put, List.getElem_toArray, List.getElem_cons_zero, List.getElem_cons_succ, List.setIfInBounds_toArray, List.set_cons_zero, List.set_cons_succ]
    refine wpAnyH_ready (rs := [2, 11]) (by kernel_rfl) (by simp) (AllReadyH.cons (o := _) rfl (fun K hK => ?_) (AllReadyH.cons (o := _) rfl (fun K hK => ?_) AllReadyH.nil))
    · go_simp
      go_at_call 21
      have hvl := valid_len HVl53.out
      refine (qcopy_any _ _ _ _ _ _ l53 _ (H59.out.slc 1 rfl) hvl.1 (by omega)).mono ?_
      rintro e w61 ⟨v62, rfl, ho, hb⟩
      have H63 := hid (H59.out.grow hb ho)
      obtain ⟨v62a, v62c, rfl, _⟩ := ho.slc
      clear ho hb hvl
      refine hK.out _ _ ?_ (fun hHeld2 => ?_)
      focus ((try dsimp only); (exact ⟨H63.out.cell 8 rfl 0 rfl, H63.out.cell 8 rfl 1 rfl, H63.out.cell 8 rfl 2 rfl, H63.out.cell 8 rfl 3 rfl, H63.out.cell 1 rfl 0 rfl, H63.out.cell 1 rfl 1 rfl, H63.out.cell 1 rfl 2 rfl, H63.out.cell 1 rfl 3 rfl, H63.out.cell 3 rfl 0 rfl, H63.out.cell 3 rfl 1 rfl, H63.out.cell 3 rfl 2 rfl, H63.out.cell 3 rfl 3 rfl⟩))
      clear hK K
      try simp only [Act.put, List.getElem_toArray, List.getElem_cons_zero, List.getElem_cons_succ, List.setIfInBounds_toArray, List.set_cons_zero, List.set_cons_succ]
      clear hHeld
      have hHeld := hHeld2
      clear hHeld2
      refine wpAnyH_ready (rs := [7, 11]) (by kernel_rfl) (by simp) (AllReadyH.cons (o := _) rfl (fun K hK => ?_) (AllReadyH.cons (o := _) rfl (fun K hK => ?_) AllReadyH.nil))
      · go_simp
        go_at_call 50
        have hcv := blit_ok HVps10.out HVl53.out (x := q36_0) (y := q36_1) (by have h1 := HNcw54.out; have h2 := HNch55.out; have h3 := HWq36.out; omega)
        refine (pblit_any _ _ _ _ _ _ ps10 _ _ _ _ _ _ l53 _ _ _ (H63.out.slc 9 rfl) (H63.out.slc 0 rfl)).mono ?_
        rintro e w64 ⟨v65, rfl, ho, hb⟩
        have hci : ∀ z, blIf pw10 ph10 pm10 ps10 cw54 ch55 pm10 l53 q36_0 q36_1 z = z := fun z => by unfold blIf; rw [if_pos hcv]
        have hcl : blList pw10 ph10 pm10 ps10 cw54 ch55 pm10 l53 q36_0 q36_1 = bl ps10 l53 pw10.toNat q36_0.toNat q36_1.toNat cw54.toNat ch55.toNat := by unfold blList; rw [if_pos hcv]
        simp only [hci, hcv]
        rw [hcl] at ho
        clear hci hcl hcv
        obtain ⟨l67, hl67⟩ : ∃ z, bl ps10 l53 pw10.toNat q36_0.toNat q36_1.toNat cw54.toNat ch55.toNat = z := ⟨_, rfl⟩
        rw [hl67] at ho
        have HNl67 := hid hl67
        clear hl67
        have H66 := hid (H63.out.grow hb ho)
        obtain ⟨v65a, v65c, rfl, _⟩ := ho.slc
        clear ho hb
        refine hK.out _ _ ?_ (fun hHeld2 => ?_)
        focus ((try dsimp only); (exact ⟨H66.out.cell 9 rfl 0 rfl, H66.out.cell 9 rfl 1 rfl, H66.out.cell 9 rfl 2 rfl, H66.out.cell 9 rfl 3 rfl, H66.out.cell 2 rfl 0 rfl, H66.out.cell 2 rfl 1 rfl, H66.out.cell 2 rfl 2 rfl, H66.out.cell 2 rfl 3 rfl, H66.out.cell 4 rfl 0 rfl, H66.out.cell 4 rfl 1 rfl, H66.out.cell 4 rfl 2 rfl, H66.out.cell 4 rfl 3 rfl⟩))
        clear hK K
        try simp only [Act.put, List.getElem_toArray, List.getElem_cons_zero, List.getElem_cons_succ, List.setIfInBounds_toArray, List.set_cons_zero, List.set_cons_succ]
        clear hHeld
        have hHeld := hHeld2
        clear hHeld2
        refine wpAnyH_take (i := 8) (oi := _) (v := ?_) rfl (by kernel_rfl) (by kernel_rfl) (by kernel_rfl) (fun _ _ _ h => h) (Or.inl ⟨by rfl, ?_⟩) (by assumption) ?_
        rotate_left
        focus (intro wS hSw; (try dsimp only at hSw); go_simp; (try with_reducible rfl))
        try simp only [Act.put, List.getElem_toArray, List.getElem_cons_zero, List.getElem_cons_succ, List.setIfInBounds_toArray, List.set_cons_zero, List.set_cons_succ]
        refine wpAnyH_take (i := 9) (oi := _) (v := ?_) rfl (by kernel_rfl) (by kernel_rfl) (by kernel_rfl) (fun _ _ _ h => h) (Or.inl ⟨by rfl, ?_⟩) (by assumption) ?_
        rotate_left
        focus (intro wS hSw; (try dsimp only at hSw); go_simp; (try with_reducible rfl))
        try simp only [Act.put, List.getElem_toArray, List.getElem_cons_zero, List.getElem_cons_succ, List.setIfInBounds_toArray, List.set_cons_zero, List.set_cons_succ]
        refine wpAnyH_take (i := 10) (oi := _) (v := ?_) rfl (by kernel_rfl) (by kernel_rfl) (by kernel_rfl) (fun _ _ _ h => h) (Or.inl ⟨by rfl, ?_⟩) (by assumption) ?_
        rotate_left
        focus (intro wS hSw; (try dsimp only at hSw); go_simp; (try with_reducible rfl))
        try simp only [Act.put, List.getElem_toArray, List.getElem_cons_zero, List.getElem_cons_succ, List.setIfInBounds_toArray, List.set_cons_zero, List.set_cons_succ]
        refine wpAnyH_ready (rs := [11]) (by kernel_rfl) (by simp) (AllReadyH.cons (o := _) rfl (fun K hK => ?_) AllReadyH.nil)
        obtain ⟨D68, hD68⟩ : ∃ D, w64.heap.size = D := ⟨_, rfl⟩
        have H69 := hid (show St B W [.cells D68 #[.int .i64 0, .int .i64 0, .int .i64 0, .slice none 0 0] 26, .own (.slice v65a l67.length v65c) l67, .own (.slice v62a l53.length v62c) l53, .cells D56 #[.int .i64 cw54, .int .i64 ch55, .int .i64 pm10, .slice v51a l53.length v51c] 26, .own (.slice v51a l53.length v51c) l53, .cells D39 #[.int .i64 q36_0, .int .i64 q36_1, .int .i64 q36_2, .int .i64 q36_3] 39, .cells D29 #[.int .i64 pw10, .int .i64 ph10, .int .i64 pm10, .slice v27a ps10.length v27c] 26, .own (.slice v27a ps10.length v27c) ps10, .cells D19 #[.int .i64 1, .int .i64 1, .int .i64 pm16, .slice pv16a ps16.length pv16c] 26, .own (.slice pv16a ps16.length pv16c) ps16, .cells D13 #[.int .i64 pw10, .int .i64 ph10, .int .i64 pm10, .slice pv10a ps10.length pv10c] 26, .own (.slice pv10a ps10.length pv10c) ps10, .tape K1] [] (w64.alloc (.cells #[.int .i64 0, .int .i64 0, .int .i64 0, .slice none 0 0] 26)) from (H66.out.alloc #[.int .i64 0, .int .i64 0, .int .i64 0, .slice none 0 0] 26 hD68))
        go_simp
        refine hK.out _ _ ?_ (fun hHeld2 => ?_)
        focus ((try dsimp only); (exact ⟨H69.out.cell 10 rfl 0 rfl, H69.out.cell 10 rfl 1 rfl, H69.out.cell 10 rfl 2 rfl, H69.out.cell 10 rfl 3 rfl, H69.out.cell 3 rfl 0 rfl, H69.out.cell 3 rfl 1 rfl, H69.out.cell 3 rfl 2 rfl, H69.out.cell 3 rfl 3 rfl, H69.out.cell 5 rfl 0 rfl, H69.out.cell 5 rfl 1 rfl, H69.out.cell 5 rfl 2 rfl, H69.out.cell 5 rfl 3 rfl⟩))
        clear hK K hHeld
        try simp only [Act.put, List.getElem_toArray, List.getElem_cons_zero, List.getElem_cons_succ, List.setIfInBounds_toArray, List.set_cons_zero, List.set_cons_succ]
        clear hD68
        generalize (w64.alloc (.cells #[.int .i64 0, .int .i64 0, .int .i64 0, .slice none 0 0] 26)) = k70 at *
        have hHeld := hHeld2
        clear hHeld2
        refine wpAnyH_ready (rs := [12]) (by kernel_rfl) (by simp) (AllReadyH.cons (o := _) rfl (fun K hK => ?_) AllReadyH.nil)
        have z71 := H69.out.cell 0 rfl 0 rfl
        have z72 := H69.out.free 0 rfl 0
        have z73 := H69.out.cell 0 rfl 1 rfl
        have z74 := H69.out.free 0 rfl 1
        have z75 := H69.out.cell 0 rfl 2 rfl
        have z76 := H69.out.free 0 rfl 2
        have z77 := H69.out.cell 0 rfl 3 rfl
        have z78 := H69.out.free 0 rfl 3
        have H79 := hid (show St B W [.cells D68 #[.int .i64 pw10, .int .i64 ph10, .int .i64 pm10, .slice v65a l67.length v65c] 26, .own (.slice v65a l67.length v65c) l67, .own (.slice v62a l53.length v62c) l53, .cells D56 #[.int .i64 cw54, .int .i64 ch55, .int .i64 pm10, .slice v51a l53.length v51c] 26, .own (.slice v51a l53.length v51c) l53, .cells D39 #[.int .i64 q36_0, .int .i64 q36_1, .int .i64 q36_2, .int .i64 q36_3] 39, .cells D29 #[.int .i64 pw10, .int .i64 ph10, .int .i64 pm10, .slice v27a ps10.length v27c] 26, .own (.slice v27a ps10.length v27c) ps10, .cells D19 #[.int .i64 1, .int .i64 1, .int .i64 pm16, .slice pv16a ps16.length pv16c] 26, .own (.slice pv16a ps16.length pv16c) ps16, .cells D13 #[.int .i64 pw10, .int .i64 ph10, .int .i64 pm10, .slice pv10a ps10.length pv10c] 26, .own (.slice pv10a ps10.length pv10c) ps10, .tape K1] [] ((((k70.setCell ⟨D68, 0, none⟩ (.int .i64 pw10)).setCell ⟨D68, 1, none⟩ (.int .i64 ph10)).setCell ⟨D68, 2, none⟩ (.int .i64 pm10)).setCell ⟨D68, 3, none⟩ (.slice v65a l67.length v65c)) from (H69.out.set4 0 rfl (.int .i64 pw10) (.int .i64 ph10) (.int .i64 pm10) (.slice v65a l67.length v65c)))
        go_simp
        refine hK.out _ _ ?_ (fun hHeld2 => ?_)
        focus ((try dsimp only); (exact ⟨H79.out.cell 10 rfl 0 rfl, H79.out.cell 10 rfl 1 rfl, H79.out.cell 10 rfl 2 rfl, H79.out.cell 10 rfl 3 rfl, H79.out.cell 3 rfl 0 rfl, H79.out.cell 3 rfl 1 rfl, H79.out.cell 3 rfl 2 rfl, H79.out.cell 3 rfl 3 rfl, H79.out.cell 5 rfl 0 rfl, H79.out.cell 5 rfl 1 rfl, H79.out.cell 5 rfl 2 rfl, H79.out.cell 5 rfl 3 rfl⟩))
        clear hK K hHeld
        try simp only [Act.put, List.getElem_toArray, List.getElem_cons_zero, List.getElem_cons_succ, List.setIfInBounds_toArray, List.set_cons_zero, List.set_cons_succ]
        clear z71 z72 z73 z74 z75 z76 z77 z78
        generalize ((((k70.setCell ⟨D68, 0, none⟩ (.int .i64 pw10)).setCell ⟨D68, 1, none⟩ (.int .i64 ph10)).setCell ⟨D68, 2, none⟩ (.int .i64 pm10)).setCell ⟨D68, 3, none⟩ (.slice v65a l67.length v65c)) = k80 at *
        have hHeld := hHeld2
        clear hHeld2
        refine wpAnyH_take (i := 13) (oi := _) (v := ?_) rfl (by kernel_rfl) (by kernel_rfl) (by kernel_rfl) (fun _ _ _ h => h) (Or.inl ⟨by rfl, ?_⟩) (by assumption) ?_
        rotate_left
        focus (intro wS hSw; (try dsimp only at hSw); go_simp; (try with_reducible rfl))
        try simp only [Act.put, List.getElem_toArray, List.getElem_cons_zero, List.getElem_cons_succ, List.setIfInBounds_toArray, List.set_cons_zero, List.set_cons_succ]
        refine wpAnyH_done (by kernel_rfl) ?_ _
        try clear hHeld
        go_wp2_with fail
        go_meet
        exact ⟨_, _, _, _, rfl, rfl, H79.out.pick [0, 1, 3, 4, 5, 6, 7, 8, 9, 10, 11, 12] rfl (by decide)⟩
      · obtain ⟨D81, hD81⟩ : ∃ D, w61.heap.size = D := ⟨_, rfl⟩
        have H82 := hid (show St B W [.cells D81 #[.int .i64 0, .int .i64 0, .int .i64 0, .slice none 0 0] 26, .own (.slice v62a l53.length v62c) l53, .cells D56 #[.int .i64 cw54, .int .i64 ch55, .int .i64 pm10, .slice v51a l53.length v51c] 26, .own (.slice v51a l53.length v51c) l53, .cells D39 #[.int .i64 q36_0, .int .i64 q36_1, .int .i64 q36_2, .int .i64 q36_3] 39, .cells D29 #[.int .i64 pw10, .int .i64 ph10, .int .i64 pm10, .slice v27a ps10.length v27c] 26, .own (.slice v27a ps10.length v27c) ps10, .cells D19 #[.int .i64 1, .int .i64 1, .int .i64 pm16, .slice pv16a ps16.length pv16c] 26, .own (.slice pv16a ps16.length pv16c) ps16, .cells D13 #[.int .i64 pw10, .int .i64 ph10, .int .i64 pm10, .slice pv10a ps10.length pv10c] 26, .own (.slice pv10a ps10.length pv10c) ps10, .tape K1] [] (w61.alloc (.cells #[.int .i64 0, .int .i64 0, .int .i64 0, .slice none 0 0] 26)) from (H63.out.alloc #[.int .i64 0, .int .i64 0, .int .i64 0, .slice none 0 0] 26 hD81))
        go_simp
        refine hK.out _ _ ?_ (fun hHeld2 => ?_)
        focus ((try dsimp only); (exact ⟨H82.out.cell 9 rfl 0 rfl, H82.out.cell 9 rfl 1 rfl, H82.out.cell 9 rfl 2 rfl, H82.out.cell 9 rfl 3 rfl, H82.out.cell 2 rfl 0 rfl, H82.out.cell 2 rfl 1 rfl, H82.out.cell 2 rfl 2 rfl, H82.out.cell 2 rfl 3 rfl, H82.out.cell 4 rfl 0 rfl, H82.out.cell 4 rfl 1 rfl, H82.out.cell 4 rfl 2 rfl, H82.out.cell 4 rfl 3 rfl⟩))
        clear hK K hHeld
        try simp only [Act.put, List.getElem_toArray, List.getElem_cons_zero, List.getElem_cons_succ, List.setIfInBounds_toArray, List.set_cons_zero, List.set_cons_succ]
        clear hD81
        generalize (w61.alloc (.cells #[.int .i64 0, .int .i64 0, .int .i64 0, .slice none 0 0] 26)) = k83 at *
        have hHeld := hHeld2
        clear hHeld2
        refine wpAnyH_ready (rs := [7]) (by kernel_rfl) (by simp) (AllReadyH.cons (o := _) rfl (fun K hK => ?_) AllReadyH.nil)
        go_simp
        go_at_call 50
        have hcv := blit_ok HVps10.out HVl53.out (x := q36_0) (y := q36_1) (by have h1 := HNcw54.out; have h2 := HNch55.out; have h3 := HWq36.out; omega)
        refine (pblit_any _ _ _ _ _ _ ps10 _ _ _ _ _ _ l53 _ _ _ (H82.out.slc 10 rfl) (H82.out.slc 1 rfl)).mono ?_
        rintro e w84 ⟨v85, rfl, ho, hb⟩
        have hci : ∀ z, blIf pw10 ph10 pm10 ps10 cw54 ch55 pm10 l53 q36_0 q36_1 z = z := fun z => by unfold blIf; rw [if_pos hcv]
        have hcl : blList pw10 ph10 pm10 ps10 cw54 ch55 pm10 l53 q36_0 q36_1 = bl ps10 l53 pw10.toNat q36_0.toNat q36_1.toNat cw54.toNat ch55.toNat := by unfold blList; rw [if_pos hcv]
        simp only [hci, hcv]
        rw [hcl] at ho
        clear hci hcl hcv
        obtain ⟨l87, hl87⟩ : ∃ z, bl ps10 l53 pw10.toNat q36_0.toNat q36_1.toNat cw54.toNat ch55.toNat = z := ⟨_, rfl⟩
        rw [hl87] at ho
        have HNl87 := hid hl87
        clear hl87
        have H86 := hid (H82.out.grow hb ho)
        obtain ⟨v85a, v85c, rfl, _⟩ := ho.slc
        clear ho hb
        refine hK.out _ _ ?_ (fun hHeld2 => ?_)
        focus ((try dsimp only); (exact ⟨H86.out.cell 10 rfl 0 rfl, H86.out.cell 10 rfl 1 rfl, H86.out.cell 10 rfl 2 rfl, H86.out.cell 10 rfl 3 rfl, H86.out.cell 3 rfl 0 rfl, H86.out.cell 3 rfl 1 rfl, H86.out.cell 3 rfl 2 rfl, H86.out.cell 3 rfl 3 rfl, H86.out.cell 5 rfl 0 rfl, H86.out.cell 5 rfl 1 rfl, H86.out.cell 5 rfl 2 rfl, H86.out.cell 5 rfl 3 rfl⟩))
        clear hK K
        try simp only [Act.put, List.getElem_toArray, List.getElem_cons_zero, List.getElem_cons_succ, List.setIfInBounds_toArray, List.set_cons_zero, List.set_cons_succ]
        clear hHeld
        have hHeld := hHeld2
        clear hHeld2
        refine wpAnyH_take (i := 8) (oi := _) (v := ?_) rfl (by kernel_rfl) (by kernel_rfl) (by kernel_rfl) (fun _ _ _ h => h) (Or.inl ⟨by rfl, ?_⟩) (by assumption) ?_
        rotate_left
        focus (intro wS hSw; (try dsimp only at hSw); go_simp; (try with_reducible rfl))
        try simp only [Act.put, List.getElem_toArray, List.getElem_cons_zero, List.getElem_cons_succ, List.setIfInBounds_toArray, List.set_cons_zero, List.set_cons_succ]
        refine wpAnyH_take (i := 9) (oi := _) (v := ?_) rfl (by kernel_rfl) (by kernel_rfl) (by kernel_rfl) (fun _ _ _ h => h) (Or.inl ⟨by rfl, ?_⟩) (by assumption) ?_
        rotate_left
        focus (intro wS hSw; (try dsimp only at hSw); go_simp; (try with_reducible rfl))
        try simp only [Act.put, List.getElem_toArray, List.getElem_cons_zero, List.getElem_cons_succ, List.setIfInBounds_toArray, List.set_cons_zero, List.set_cons_succ]
        refine wpAnyH_take (i := 10) (oi := _) (v := ?_) rfl (by kernel_rfl) (by kernel_rfl) (by kernel_rfl) (fun _ _ _ h => h) (Or.inl ⟨by rfl, ?_⟩) (by assumption) ?_
        rotate_left
        focus (intro wS hSw; (try dsimp only at hSw); go_simp; (try with_reducible rfl))
        try simp only [Act.put, List.getElem_toArray, List.getElem_cons_zero, List.getElem_cons_succ, List.setIfInBounds_toArray, List.set_cons_zero, List.set_cons_succ]
        refine wpAnyH_ready (rs := [12]) (by kernel_rfl) (by simp) (AllReadyH.cons (o := _) rfl (fun K hK => ?_) AllReadyH.nil)
        have z88 := H86.out.cell 1 rfl 0 rfl
        have z89 := H86.out.free 1 rfl 0
        have z90 := H86.out.cell 1 rfl 1 rfl
        have z91 := H86.out.free 1 rfl 1
        have z92 := H86.out.cell 1 rfl 2 rfl
        have z93 := H86.out.free 1 rfl 2
        have z94 := H86.out.cell 1 rfl 3 rfl
        have z95 := H86.out.free 1 rfl 3
        have H96 := hid (show St B W [.own (.slice v85a l87.length v85c) l87, .cells D81 #[.int .i64 pw10, .int .i64 ph10, .int .i64 pm10, .slice v85a l87.length v85c] 26, .own (.slice v62a l53.length v62c) l53, .cells D56 #[.int .i64 cw54, .int .i64 ch55, .int .i64 pm10, .slice v51a l53.length v51c] 26, .own (.slice v51a l53.length v51c) l53, .cells D39 #[.int .i64 q36_0, .int .i64 q36_1, .int .i64 q36_2, .int .i64 q36_3] 39, .cells D29 #[.int .i64 pw10, .int .i64 ph10, .int .i64 pm10, .slice v27a ps10.length v27c] 26, .own (.slice v27a ps10.length v27c) ps10, .cells D19 #[.int .i64 1, .int .i64 1, .int .i64 pm16, .slice pv16a ps16.length pv16c] 26, .own (.slice pv16a ps16.length pv16c) ps16, .cells D13 #[.int .i64 pw10, .int .i64 ph10, .int .i64 pm10, .slice pv10a ps10.length pv10c] 26, .own (.slice pv10a ps10.length pv10c) ps10, .tape K1] [] ((((w84.setCell ⟨D81, 0, none⟩ (.int .i64 pw10)).setCell ⟨D81, 1, none⟩ (.int .i64 ph10)).setCell ⟨D81, 2, none⟩ (.int .i64 pm10)).setCell ⟨D81, 3, none⟩ (.slice v85a l87.length v85c)) from (H86.out.set4 1 rfl (.int .i64 pw10) (.int .i64 ph10) (.int .i64 pm10) (.slice v85a l87.length v85c)))
        go_simp
        refine hK.out _ _ ?_ (fun hHeld2 => ?_)
        focus ((try dsimp only); (exact ⟨H96.out.cell 10 rfl 0 rfl, H96.out.cell 10 rfl 1 rfl, H96.out.cell 10 rfl 2 rfl, H96.out.cell 10 rfl 3 rfl, H96.out.cell 3 rfl 0 rfl, H96.out.cell 3 rfl 1 rfl, H96.out.cell 3 rfl 2 rfl, H96.out.cell 3 rfl 3 rfl, H96.out.cell 5 rfl 0 rfl, H96.out.cell 5 rfl 1 rfl, H96.out.cell 5 rfl 2 rfl, H96.out.cell 5 rfl 3 rfl⟩))
        clear hK K hHeld
        try simp only [Act.put, List.getElem_toArray, List.getElem_cons_zero, List.getElem_cons_succ, List.setIfInBounds_toArray, List.set_cons_zero, List.set_cons_succ]
        clear z88 z89 z90 z91 z92 z93 z94 z95
        generalize ((((w84.setCell ⟨D81, 0, none⟩ (.int .i64 pw10)).setCell ⟨D81, 1, none⟩ (.int .i64 ph10)).setCell ⟨D81, 2, none⟩ (.int .i64 pm10)).setCell ⟨D81, 3, none⟩ (.slice v85a l87.length v85c)) = k97 at *
        have hHeld := hHeld2
        clear hHeld2
        refine wpAnyH_take (i := 13) (oi := _) (v := ?_) rfl (by kernel_rfl) (by kernel_rfl) (by kernel_rfl) (fun _ _ _ h => h) (Or.inl ⟨by rfl, ?_⟩) (by assumption) ?_
        rotate_left
        focus (intro wS hSw; (try dsimp only at hSw); go_simp; (try with_reducible rfl))
        try simp only [Act.put, List.getElem_toArray, List.getElem_cons_zero, List.getElem_cons_succ, List.setIfInBounds_toArray, List.set_cons_zero, List.set_cons_succ]
        refine wpAnyH_done (by kernel_rfl) ?_ _
        try clear hHeld
        go_wp2_with fail
        go_meet
        exact ⟨_, _, _, _, rfl, rfl, H96.out.pick [1, 0, 3, 4, 5, 6, 7, 8, 9, 10, 11, 12] rfl (by decide)⟩
    · obtain ⟨D98, hD98⟩ : ∃ D, k60.heap.size = D := ⟨_, rfl⟩
      have H99 := hid (show St B W [.cells D98 #[.int .i64 0, .int .i64 0, .int .i64 0, .slice none 0 0] 26, .cells D56 #[.int .i64 cw54, .int .i64 ch55, .int .i64 pm10, .slice v51a l53.length v51c] 26, .own (.slice v51a l53.length v51c) l53, .cells D39 #[.int .i64 q36_0, .int .i64 q36_1, .int .i64 q36_2, .int .i64 q36_3] 39, .cells D29 #[.int .i64 pw10, .int .i64 ph10, .int .i64 pm10, .slice v27a ps10.length v27c] 26, .own (.slice v27a ps10.length v27c) ps10, .cells D19 #[.int .i64 1, .int .i64 1, .int .i64 pm16, .slice pv16a ps16.length pv16c] 26, .own (.slice pv16a ps16.length pv16c) ps16, .cells D13 #[.int .i64 pw10, .int .i64 ph10, .int .i64 pm10, .slice pv10a ps10.length pv10c] 26, .own (.slice pv10a ps10.length pv10c) ps10, .tape K1] [] (k60.alloc (.cells #[.int .i64 0, .int .i64 0, .int .i64 0, .slice none 0 0] 26)) from (H59.out.alloc #[.int .i64 0, .int .i64 0, .int .i64 0, .slice none 0 0] 26 hD98))
      go_simp
      refine hK.out _ _ ?_ (fun hHeld2 => ?_)
      focus ((try dsimp only); (exact ⟨H99.out.cell 8 rfl 0 rfl, H99.out.cell 8 rfl 1 rfl, H99.out.cell 8 rfl 2 rfl, H99.out.cell 8 rfl 3 rfl, H99.out.cell 1 rfl 0 rfl, H99.out.cell 1 rfl 1 rfl, H99.out.cell 1 rfl 2 rfl, H99.out.cell 1 rfl 3 rfl, H99.out.cell 3 rfl 0 rfl, H99.out.cell 3 rfl 1 rfl, H99.out.cell 3 rfl 2 rfl, H99.out.cell 3 rfl 3 rfl⟩))
      clear hK K hHeld
      try simp only [Act.put, List.getElem_toArray, List.getElem_cons_zero, List.getElem_cons_succ, List.setIfInBounds_toArray, List.set_cons_zero, List.set_cons_succ]
      clear hD98
      generalize (k60.alloc (.cells #[.int .i64 0, .int .i64 0, .int .i64 0, .slice none 0 0] 26)) = k100 at *
      have hHeld := hHeld2
      clear hHeld2
      refine wpAnyH_ready (rs := [2]) (by kernel_rfl) (by simp) (AllReadyH.cons (o := _) rfl (fun K hK => ?_) AllReadyH.nil)
      go_simp
      go_at_call 21
      have hvl := valid_len HVl53.out
      refine (qcopy_any _ _ _ _ _ _ l53 _ (H99.out.slc 2 rfl) hvl.1 (by omega)).mono ?_
      rintro e w101 ⟨v102, rfl, ho, hb⟩
      have H103 := hid (H99.out.grow hb ho)
      obtain ⟨v102a, v102c, rfl, _⟩ := ho.slc
      clear ho hb hvl
      refine hK.out _ _ ?_ (fun hHeld2 => ?_)
      focus ((try dsimp only); (exact ⟨H103.out.cell 9 rfl 0 rfl, H103.out.cell 9 rfl 1 rfl, H103.out.cell 9 rfl 2 rfl, H103.out.cell 9 rfl 3 rfl, H103.out.cell 2 rfl 0 rfl, H103.out.cell 2 rfl 1 rfl, H103.out.cell 2 rfl 2 rfl, H103.out.cell 2 rfl 3 rfl, H103.out.cell 4 rfl 0 rfl, H103.out.cell 4 rfl 1 rfl, H103.out.cell 4 rfl 2 rfl, H103.out.cell 4 rfl 3 rfl⟩))
      clear hK K
      try simp only [Act.put, List.getElem_toArray, List.getElem_cons_zero, List.getElem_cons_succ, List.setIfInBounds_toArray, List.set_cons_zero, List.set_cons_succ]
      clear hHeld
      have hHeld := hHeld2
      clear hHeld2
      refine wpAnyH_ready (rs := [7]) (by kernel_rfl) (by simp) (AllReadyH.cons (o := _) rfl (fun K hK => ?_) AllReadyH.nil)
      go_simp
      go_at_call 50
      have hcv := blit_ok HVps10.out HVl53.out (x := q36_0) (y := q36_1) (by have h1 := HNcw54.out; have h2 := HNch55.out; have h3 := HWq36.out; omega)
      refine (pblit_any _ _ _ _ _ _ ps10 _ _ _ _ _ _ l53 _ _ _ (H103.out.slc 10 rfl) (H103.out.slc 0 rfl)).mono ?_
      rintro e w104 ⟨v105, rfl, ho, hb⟩
      have hci : ∀ z, blIf pw10 ph10 pm10 ps10 cw54 ch55 pm10 l53 q36_0 q36_1 z = z := fun z => by unfold blIf; rw [if_pos hcv]
      have hcl : blList pw10 ph10 pm10 ps10 cw54 ch55 pm10 l53 q36_0 q36_1 = bl ps10 l53 pw10.toNat q36_0.toNat q36_1.toNat cw54.toNat ch55.toNat := by unfold blList; rw [if_pos hcv]
      simp only [hci, hcv]
      rw [hcl] at ho
      clear hci hcl hcv
      obtain ⟨l107, hl107⟩ : ∃ z, bl ps10 l53 pw10.toNat q36_0.toNat q36_1.toNat cw54.toNat ch55.toNat = z := ⟨_, rfl⟩
      rw [hl107] at ho
      have HNl107 := hid hl107
      clear hl107
      have H106 := hid (H103.out.grow hb ho)
      obtain ⟨v105a, v105c, rfl, _⟩ := ho.slc
      clear ho hb
      refine hK.out _ _ ?_ (fun hHeld2 => ?_)
      focus ((try dsimp only); (exact ⟨H106.out.cell 10 rfl 0 rfl, H106.out.cell 10 rfl 1 rfl, H106.out.cell 10 rfl 2 rfl, H106.out.cell 10 rfl 3 rfl, H106.out.cell 3 rfl 0 rfl, H106.out.cell 3 rfl 1 rfl, H106.out.cell 3 rfl 2 rfl, H106.out.cell 3 rfl 3 rfl, H106.out.cell 5 rfl 0 rfl, H106.out.cell 5 rfl 1 rfl, H106.out.cell 5 rfl 2 rfl, H106.out.cell 5 rfl 3 rfl⟩))
      clear hK K
      try simp only [Act.put, List.getElem_toArray, List.getElem_cons_zero, List.getElem_cons_succ, List.setIfInBounds_toArray, List.set_cons_zero, List.set_cons_succ]
      clear hHeld
      have hHeld := hHeld2
      clear hHeld2
      refine wpAnyH_take (i := 8) (oi := _) (v := ?_) rfl (by kernel_rfl) (by kernel_rfl) (by kernel_rfl) (fun _ _ _ h => h) (Or.inl ⟨by rfl, ?_⟩) (by assumption) ?_
      rotate_left
      focus (intro wS hSw; (try dsimp only at hSw); go_simp; (try with_reducible rfl))
      try simp only [Act.put, List.getElem_toArray, List.getElem_cons_zero, List.getElem_cons_succ, List.setIfInBounds_toArray, List.set_cons_zero, List.set_cons_succ]
      refine wpAnyH_take (i := 9) (oi := _) (v := ?_) rfl (by kernel_rfl) (by kernel_rfl) (by kernel_rfl) (fun _ _ _ h => h) (Or.inl ⟨by rfl, ?_⟩) (by assumption) ?_
      rotate_left
      focus (intro wS hSw; (try dsimp only at hSw); go_simp; (try with_reducible rfl))
      try simp only [Act.put, List.getElem_toArray, List.getElem_cons_zero, List.getElem_cons_succ, List.setIfInBounds_toArray, List.set_cons_zero, List.set_cons_succ]
      refine wpAnyH_take (i := 10) (oi := _) (v := ?_) rfl (by kernel_rfl) (by kernel_rfl) (by kernel_rfl) (fun _ _ _ h => h) (Or.inl ⟨by rfl, ?_⟩) (by assumption) ?_
      rotate_left
      focus (intro wS hSw; (try dsimp only at hSw); go_simp; (try with_reducible rfl))
      try simp only [Act.put, List.getElem_toArray, List.getElem_cons_zero, List.getElem_cons_succ, List.setIfInBounds_toArray, List.set_cons_zero, List.set_cons_succ]
      refine wpAnyH_ready (rs := [12]) (by kernel_rfl) (by simp) (AllReadyH.cons (o := _) rfl (fun K hK => ?_) AllReadyH.nil)
      have z108 := H106.out.cell 2 rfl 0 rfl
      have z109 := H106.out.free 2 rfl 0
      have z110 := H106.out.cell 2 rfl 1 rfl
      have z111 := H106.out.free 2 rfl 1
      have z112 := H106.out.cell 2 rfl 2 rfl
      have z113 := H106.out.free 2 rfl 2
      have z114 := H106.out.cell 2 rfl 3 rfl
      have z115 := H106.out.free 2 rfl 3
      have H116 := hid (show St B W [.own (.slice v105a l107.length v105c) l107, .own (.slice v102a l53.length v102c) l53, .cells D98 #[.int .i64 pw10, .int .i64 ph10, .int .i64 pm10, .slice v105a l107.length v105c] 26, .cells D56 #[.int .i64 cw54, .int .i64 ch55, .int .i64 pm10, .slice v51a l53.length v51c] 26, .own (.slice v51a l53.length v51c) l53, .cells D39 #[.int .i64 q36_0, .int .i64 q36_1, .int .i64 q36_2, .int .i64 q36_3] 39, .cells D29 #[.int .i64 pw10, .int .i64 ph10, .int .i64 pm10, .slice v27a ps10.length v27c] 26, .own (.slice v27a ps10.length v27c) ps10, .cells D19 #[.int .i64 1, .int .i64 1, .int .i64 pm16, .slice pv16a ps16.length pv16c] 26, .own (.slice pv16a ps16.length pv16c) ps16, .cells D13 #[.int .i64 pw10, .int .i64 ph10, .int .i64 pm10, .slice pv10a ps10.length pv10c] 26, .own (.slice pv10a ps10.length pv10c) ps10, .tape K1] [] ((((w104.setCell ⟨D98, 0, none⟩ (.int .i64 pw10)).setCell ⟨D98, 1, none⟩ (.int .i64 ph10)).setCell ⟨D98, 2, none⟩ (.int .i64 pm10)).setCell ⟨D98, 3, none⟩ (.slice v105a l107.length v105c)) from (H106.out.set4 2 rfl (.int .i64 pw10) (.int .i64 ph10) (.int .i64 pm10) (.slice v105a l107.length v105c)))
      go_simp
      refine hK.out _ _ ?_ (fun hHeld2 => ?_)
      focus ((try dsimp only); (exact ⟨H116.out.cell 10 rfl 0 rfl, H116.out.cell 10 rfl 1 rfl, H116.out.cell 10 rfl 2 rfl, H116.out.cell 10 rfl 3 rfl, H116.out.cell 3 rfl 0 rfl, H116.out.cell 3 rfl 1 rfl, H116.out.cell 3 rfl 2 rfl, H116.out.cell 3 rfl 3 rfl, H116.out.cell 5 rfl 0 rfl, H116.out.cell 5 rfl 1 rfl, H116.out.cell 5 rfl 2 rfl, H116.out.cell 5 rfl 3 rfl⟩))
      clear hK K hHeld
      try simp only [Act.put, List.getElem_toArray, List.getElem_cons_zero, List.getElem_cons_succ, List.setIfInBounds_toArray, List.set_cons_zero, List.set_cons_succ]
      clear z108 z109 z110 z111 z112 z113 z114 z115
      generalize ((((w104.setCell ⟨D98, 0, none⟩ (.int .i64 pw10)).setCell ⟨D98, 1, none⟩ (.int .i64 ph10)).setCell ⟨D98, 2, none⟩ (.int .i64 pm10)).setCell ⟨D98, 3, none⟩ (.slice v105a l107.length v105c)) = k117 at *
      have hHeld := hHeld2
      clear hHeld2
      refine wpAnyH_take (i := 13) (oi := _) (v := ?_) rfl (by kernel_rfl) (by kernel_rfl) (by kernel_rfl) (fun _ _ _ h => h) (Or.inl ⟨by rfl, ?_⟩) (by assumption) ?_
      rotate_left
      focus (intro wS hSw; (try dsimp only at hSw); go_simp; (try with_reducible rfl))
      try simp only [Act.put, List.getElem_toArray, List.getElem_cons_zero, List.getElem_cons_succ, List.setIfInBounds_toArray, List.set_cons_zero, List.set_cons_succ]
      refine wpAnyH_done (by kernel_rfl) ?_ _
      try clear hHeld
      go_wp2_with fail
      go_meet
      exact ⟨_, _, _, _, rfl, rfl, H116.out.pick [2, 0, 3, 4, 5, 6, 7, 8, 9, 10, 11, 12] rfl (by decide)⟩
  case rest =>
    obtain ⟨DD, ba, bc, lb, rfl, rfl, hst⟩ := hcut
    obtain ⟨u118, rfl⟩ : ∃ u118 : World, u118 = wc := ⟨_, rfl⟩
    have H119 := hid hst
    clear hst
    have z120 := H119.out.cell 7 rfl 0 rfl
    have z121 := H119.out.cell 7 rfl 1 rfl
    have z122 := H119.out.cell 7 rfl 2 rfl
    have z123 := H119.out.cell 7 rfl 3 rfl
    go_wp2_with fail
    clear z120 z121 z122 z123
    have hcv := blit_ok HVps16.out HVps16.out (x := 0) (y := 0) (by omega)
    refine (pblit_any _ _ _ _ _ _ ps16 _ _ _ _ _ _ ps16 _ _ _ (H119.out.slc 8 rfl) (H119.out.slc 8 rfl)).mono ?_
    rintro e w124 ⟨v125, rfl, ho, hb⟩
    have hci : ∀ z, blIf 1 1 pm16 ps16 1 1 pm16 ps16 0 0 z = z := fun z => by unfold blIf; rw [if_pos hcv]
    have hcl : blList 1 1 pm16 ps16 1 1 pm16 ps16 0 0 = bl ps16 ps16 (1 : Int).toNat (0 : Int).toNat (0 : Int).toNat (1 : Int).toNat (1 : Int).toNat := by unfold blList; rw [if_pos hcv]
    simp only [hci, hcv]
    rw [hcl] at ho
    clear hci hcl hcv
    obtain ⟨l127, hl127⟩ : ∃ z, bl ps16 ps16 (1 : Int).toNat (0 : Int).toNat (0 : Int).toNat (1 : Int).toNat (1 : Int).toNat = z := ⟨_, rfl⟩
    rw [hl127] at ho
    have HNl127 := hid hl127
    clear hl127
    have H126 := hid (H119.out.grow hb ho)
    obtain ⟨v125a, v125c, rfl, _⟩ := ho.slc
    clear ho hb
    obtain ⟨D128, hD128⟩ : ∃ D, w124.heap.size = D := ⟨_, rfl⟩
    go_upto_region 9 with fail
    have H129 := hid (show St B W [.cells D128 #[.int .i64 1, .int .i64 1, .int .i64 pm16, .slice v125a l127.length v125c] 26, .own (.slice v125a l127.length v125c) l127, .cells DD #[.int .i64 pw10, .int .i64 ph10, .int .i64 pm10, .slice ba lb.length bc] 26, .own (.slice ba lb.length bc) lb, .cells D56 #[.int .i64 cw54, .int .i64 ch55, .int .i64 pm10, .slice v51a l53.length v51c] 26, .own (.slice v51a l53.length v51c) l53, .cells D39 #[.int .i64 q36_0, .int .i64 q36_1, .int .i64 q36_2, .int .i64 q36_3] 39, .cells D29 #[.int .i64 pw10, .int .i64 ph10, .int .i64 pm10, .slice v27a ps10.length v27c] 26, .own (.slice v27a ps10.length v27c) ps10, .cells D19 #[.int .i64 1, .int .i64 1, .int .i64 pm16, .slice pv16a ps16.length pv16c] 26, .own (.slice pv16a ps16.length pv16c) ps16, .cells D13 #[.int .i64 pw10, .int .i64 ph10, .int .i64 pm10, .slice pv10a ps10.length pv10c] 26, .own (.slice pv10a ps10.length pv10c) ps10, .tape K1] [] (w124.alloc (.cells #[.int .i64 1, .int .i64 1, .int .i64 pm16, .slice v125a l127.length v125c] 26)) from (H126.out.alloc #[.int .i64 1, .int .i64 1, .int .i64 pm16, .slice v125a l127.length v125c] 26 hD128))
    first | refine gen_code H129.out ?_ | refine gen_list H129.out ?_ | refine gen_calls H129.out ?_
    intro w130 hG
    clear H129
    have H129 := hid hG
    clear hG
    clear hD128
    go_wp2_with fail
    go_loopw [14] (fun i wr => ∃ (j : Nat) (la : List Int), j ≤ l53.length ∧ la.length = l53.length ∧ i = .int .i64 j ∧ St B W [.cells D128 #[.int .i64 1, .int .i64 1, .int .i64 pm16, .slice v125a l127.length v125c] 26, .own (.slice v125a l127.length v125c) l127, .cells DD #[.int .i64 pw10, .int .i64 ph10, .int .i64 pm10, .slice ba lb.length bc] 26, .own (.slice ba lb.length bc) lb, .cells D56 #[.int .i64 cw54, .int .i64 ch55, .int .i64 pm10, .slice v51a l53.length v51c] 26, .own (.slice v51a l53.length v51c) la, .cells D39 #[.int .i64 q36_0, .int .i64 q36_1, .int .i64 q36_2, .int .i64 q36_3] 39, .cells D29 #[.int .i64 pw10, .int .i64 ph10, .int .i64 pm10, .slice v27a ps10.length v27c] 26, .own (.slice v27a ps10.length v27c) ps10, .cells D19 #[.int .i64 1, .int .i64 1, .int .i64 pm16, .slice pv16a ps16.length pv16c] 26, .own (.slice pv16a ps16.length pv16c) ps16, .cells D13 #[.int .i64 pw10, .int .i64 ph10, .int .i64 pm10, .slice pv10a ps10.length pv10c] 26, .own (.slice pv10a ps10.length pv10c) ps10, .tape K1] [] wr) (fun i _ => l53.length - (intOf i).toNat)
    case atStart => exact ⟨0, l53, by omega, rfl, rfl, H129.out⟩
    case round =>
      obtain ⟨j, la, hj, hla, rfl, hst⟩ := hrel
      obtain ⟨u131, rfl⟩ : ∃ u131 : World, u131 = wr := ⟨_, rfl⟩
      have H132 := hid hst
      clear hst
      have HLla := hid hla
      clear hla
      have hnn : (l53.length : Int) ≤ 9223372036854775807 := by have h' := H132.out.slc 5 rfl; have := h'.nc; have := h'.cap; omega
      by_cases hjn : j < l53.length
      · skip
        have hjn' : (j : Int) < l53.length := by omega
        obtain ⟨gg, gc, hgg⟩ := (H132.out.own 5 rfl).pos (by rw [HLla.out]; omega)
        rw [HLla.out] at hgg
        injection hgg with hga hgb hgc
        subst hga
        clear hgb hgc
        obtain ⟨s1, s2⟩ := H132.out.get 5 rfl (j := j) (by rw [HLla.out]; exact hjn)
        have z133 := H132.out.cell 4 rfl 0 rfl
        have z134 := H132.out.cell 4 rfl 1 rfl
        have z135 := H132.out.cell 4 rfl 2 rfl
        have z136 := H132.out.cell 4 rfl 3 rfl
        go_upto_region 13 with fail
        clear z133 z134 z135 z136
        have H137 := hid (show St B W [.cells D128 #[.int .i64 1, .int .i64 1, .int .i64 pm16, .slice v125a l127.length v125c] 26, .own (.slice v125a l127.length v125c) l127, .cells DD #[.int .i64 pw10, .int .i64 ph10, .int .i64 pm10, .slice ba lb.length bc] 26, .own (.slice ba lb.length bc) lb, .cells D56 #[.int .i64 cw54, .int .i64 ch55, .int .i64 pm10, .slice (some ⟨gg, 0, none⟩) l53.length v51c] 26, .own (.slice (some ⟨gg, 0, none⟩) l53.length v51c) (la.set j (-1)), .cells D39 #[.int .i64 q36_0, .int .i64 q36_1, .int .i64 q36_2, .int .i64 q36_3] 39, .cells D29 #[.int .i64 pw10, .int .i64 ph10, .int .i64 pm10, .slice v27a ps10.length v27c] 26, .own (.slice v27a ps10.length v27c) ps10, .cells D19 #[.int .i64 1, .int .i64 1, .int .i64 pm16, .slice pv16a ps16.length pv16c] 26, .own (.slice pv16a ps16.length pv16c) ps16, .cells D13 #[.int .i64 pw10, .int .i64 ph10, .int .i64 pm10, .slice pv10a ps10.length pv10c] 26, .own (.slice pv10a ps10.length pv10c) ps10, .tape K1] [] (u131.setCell ⟨gg, j, none⟩ (.int .i64 (-1))) from (H132.out.store 5 rfl j (-1)))
        first | refine gen_code H137.out ?_ | refine gen_list H137.out ?_ | refine gen_calls H137.out ?_
        intro w138 hG
        clear H137
        have H137 := hid hG
        clear hG
        go_wp2_with fail
        go_roundw
        case rel => exact ⟨j + 1, _, by omega, by rw [List.length_set]; exact HLla.out, by go_num, H137.out⟩
        case measure => first | (simp [intOf]; omega) | (simp [intOf]; done)
      · skip
        have hjn' : ¬ ((j : Int) < l53.length) := by omega
        have z139 := H132.out.cell 4 rfl 0 rfl
        have z140 := H132.out.cell 4 rfl 1 rfl
        have z141 := H132.out.cell 4 rfl 2 rfl
        have z142 := H132.out.cell 4 rfl 3 rfl
        go_wp2_with fail
        clear z139 z140 z141 z142
        go_loopw [15] (fun i wr => ∃ (j : Nat) (lq : List Int), j ≤ lb.length ∧ lq.length = lb.length ∧ i = .int .i64 j ∧ St B W [.cells D128 #[.int .i64 1, .int .i64 1, .int .i64 pm16, .slice v125a l127.length v125c] 26, .own (.slice v125a l127.length v125c) l127, .cells DD #[.int .i64 pw10, .int .i64 ph10, .int .i64 pm10, .slice ba lb.length bc] 26, .own (.slice ba lb.length bc) lq, .cells D56 #[.int .i64 cw54, .int .i64 ch55, .int .i64 pm10, .slice v51a l53.length v51c] 26, .own (.slice v51a l53.length v51c) la, .cells D39 #[.int .i64 q36_0, .int .i64 q36_1, .int .i64 q36_2, .int .i64 q36_3] 39, .cells D29 #[.int .i64 pw10, .int .i64 ph10, .int .i64 pm10, .slice v27a ps10.length v27c] 26, .own (.slice v27a ps10.length v27c) ps10, .cells D19 #[.int .i64 1, .int .i64 1, .int .i64 pm16, .slice pv16a ps16.length pv16c] 26, .own (.slice pv16a ps16.length pv16c) ps16, .cells D13 #[.int .i64 pw10, .int .i64 ph10, .int .i64 pm10, .slice pv10a ps10.length pv10c] 26, .own (.slice pv10a ps10.length pv10c) ps10, .tape K1] [] wr) (fun i _ => lb.length - (intOf i).toNat)
        case atStart => exact ⟨0, lb, by omega, rfl, rfl, H132.out⟩
        case round =>
          obtain ⟨j, lq, hj, hlq, rfl, hst⟩ := hrel
          obtain ⟨u143, rfl⟩ : ∃ u143 : World, u143 = wr := ⟨_, rfl⟩
          have H144 := hid hst
          clear hst
          have HLlq := hid hlq
          clear hlq
          have hnn : (lb.length : Int) ≤ 9223372036854775807 := by have h' := H144.out.slc 3 rfl; have := h'.nc; have := h'.cap; omega
          by_cases hjn : j < lb.length
          · skip
            have hjn' : (j : Int) < lb.length := by omega
            obtain ⟨gg, gc, hgg⟩ := (H144.out.own 3 rfl).pos (by rw [HLlq.out]; omega)
            rw [HLlq.out] at hgg
            injection hgg with hga hgb hgc
            subst hga
            clear hgb hgc
            obtain ⟨s1, s2⟩ := H144.out.get 3 rfl (j := j) (by rw [HLlq.out]; exact hjn)
            have z145 := H144.out.cell 2 rfl 0 rfl
            have z146 := H144.out.cell 2 rfl 1 rfl
            have z147 := H144.out.cell 2 rfl 2 rfl
            have z148 := H144.out.cell 2 rfl 3 rfl
            go_upto_region 17 with fail
            clear z145 z146 z147 z148
            have H149 := hid (show St B W [.cells D128 #[.int .i64 1, .int .i64 1, .int .i64 pm16, .slice v125a l127.length v125c] 26, .own (.slice v125a l127.length v125c) l127, .cells DD #[.int .i64 pw10, .int .i64 ph10, .int .i64 pm10, .slice (some ⟨gg, 0, none⟩) lb.length bc] 26, .own (.slice (some ⟨gg, 0, none⟩) lb.length bc) (lq.set j (-1)), .cells D56 #[.int .i64 cw54, .int .i64 ch55, .int .i64 pm10, .slice v51a l53.length v51c] 26, .own (.slice v51a l53.length v51c) la, .cells D39 #[.int .i64 q36_0, .int .i64 q36_1, .int .i64 q36_2, .int .i64 q36_3] 39, .cells D29 #[.int .i64 pw10, .int .i64 ph10, .int .i64 pm10, .slice v27a ps10.length v27c] 26, .own (.slice v27a ps10.length v27c) ps10, .cells D19 #[.int .i64 1, .int .i64 1, .int .i64 pm16, .slice pv16a ps16.length pv16c] 26, .own (.slice pv16a ps16.length pv16c) ps16, .cells D13 #[.int .i64 pw10, .int .i64 ph10, .int .i64 pm10, .slice pv10a ps10.length pv10c] 26, .own (.slice pv10a ps10.length pv10c) ps10, .tape K1] [] (u143.setCell ⟨gg, j, none⟩ (.int .i64 (-1))) from (H144.out.store 3 rfl j (-1)))
            first | refine gen_code H149.out ?_ | refine gen_list H149.out ?_ | refine gen_calls H149.out ?_
            intro w150 hG
            clear H149
            have H149 := hid hG
            clear hG
            go_wp2_with fail
            go_roundw
            case rel => exact ⟨j + 1, _, by omega, by rw [List.length_set]; exact HLlq.out, by go_num, H149.out⟩
            case measure => first | (simp [intOf]; omega) | (simp [intOf]; done)
          · skip
            have hjn' : ¬ ((j : Int) < lb.length) := by omega
            have z151 := H144.out.cell 2 rfl 0 rfl
            have z152 := H144.out.cell 2 rfl 1 rfl
            have z153 := H144.out.cell 2 rfl 2 rfl
            have z154 := H144.out.cell 2 rfl 3 rfl
            go_wp2_with fail
            clear z151 z152 z153 z154
            go_loopw [16] (fun i wr => ∃ (j : Nat) (lc : List Int), j ≤ l127.length ∧ lc.length = l127.length ∧ i = .int .i64 j ∧ St B W [.cells D128 #[.int .i64 1, .int .i64 1, .int .i64 pm16, .slice v125a l127.length v125c] 26, .own (.slice v125a l127.length v125c) lc, .cells DD #[.int .i64 pw10, .int .i64 ph10, .int .i64 pm10, .slice ba lb.length bc] 26, .own (.slice ba lb.length bc) lq, .cells D56 #[.int .i64 cw54, .int .i64 ch55, .int .i64 pm10, .slice v51a l53.length v51c] 26, .own (.slice v51a l53.length v51c) la, .cells D39 #[.int .i64 q36_0, .int .i64 q36_1, .int .i64 q36_2, .int .i64 q36_3] 39, .cells D29 #[.int .i64 pw10, .int .i64 ph10, .int .i64 pm10, .slice v27a ps10.length v27c] 26, .own (.slice v27a ps10.length v27c) ps10, .cells D19 #[.int .i64 1, .int .i64 1, .int .i64 pm16, .slice pv16a ps16.length pv16c] 26, .own (.slice pv16a ps16.length pv16c) ps16, .cells D13 #[.int .i64 pw10, .int .i64 ph10, .int .i64 pm10, .slice pv10a ps10.length pv10c] 26, .own (.slice pv10a ps10.length pv10c) ps10, .tape K1] [] wr) (fun i _ => l127.length - (intOf i).toNat)
            case atStart => exact ⟨0, l127, by omega, rfl, rfl, H144.out⟩
            case round =>
              obtain ⟨j, lc, hj, hlc, rfl, hst⟩ := hrel
              obtain ⟨u155, rfl⟩ : ∃ u155 : World, u155 = wr := ⟨_, rfl⟩
              have H156 := hid hst
              clear hst
              have HLlc := hid hlc
              clear hlc
              have hnn : (l127.length : Int) ≤ 9223372036854775807 := by have h' := H156.out.slc 1 rfl; have := h'.nc; have := h'.cap; omega
              by_cases hjn : j < l127.length
              · skip
                have hjn' : (j : Int) < l127.length := by omega
                obtain ⟨gg, gc, hgg⟩ := (H156.out.own 1 rfl).pos (by rw [HLlc.out]; omega)
                rw [HLlc.out] at hgg
                injection hgg with hga hgb hgc
                subst hga
                clear hgb hgc
                obtain ⟨s1, s2⟩ := H156.out.get 1 rfl (j := j) (by rw [HLlc.out]; exact hjn)
                have z157 := H156.out.cell 0 rfl 0 rfl
                have z158 := H156.out.cell 0 rfl 1 rfl
                have z159 := H156.out.cell 0 rfl 2 rfl
                have z160 := H156.out.cell 0 rfl 3 rfl
                go_upto_region 21 with fail
                clear z157 z158 z159 z160
                have H161 := hid (show St B W [.cells D128 #[.int .i64 1, .int .i64 1, .int .i64 pm16, .slice (some ⟨gg, 0, none⟩) l127.length v125c] 26, .own (.slice (some ⟨gg, 0, none⟩) l127.length v125c) (lc.set j (-1)), .cells DD #[.int .i64 pw10, .int .i64 ph10, .int .i64 pm10, .slice ba lb.length bc] 26, .own (.slice ba lb.length bc) lq, .cells D56 #[.int .i64 cw54, .int .i64 ch55, .int .i64 pm10, .slice v51a l53.length v51c] 26, .own (.slice v51a l53.length v51c) la, .cells D39 #[.int .i64 q36_0, .int .i64 q36_1, .int .i64 q36_2, .int .i64 q36_3] 39, .cells D29 #[.int .i64 pw10, .int .i64 ph10, .int .i64 pm10, .slice v27a ps10.length v27c] 26, .own (.slice v27a ps10.length v27c) ps10, .cells D19 #[.int .i64 1, .int .i64 1, .int .i64 pm16, .slice pv16a ps16.length pv16c] 26, .own (.slice pv16a ps16.length pv16c) ps16, .cells D13 #[.int .i64 pw10, .int .i64 ph10, .int .i64 pm10, .slice pv10a ps10.length pv10c] 26, .own (.slice pv10a ps10.length pv10c) ps10, .tape K1] [] (u155.setCell ⟨gg, j, none⟩ (.int .i64 (-1))) from (H156.out.store 1 rfl j (-1)))
                first | refine gen_code H161.out ?_ | refine gen_list H161.out ?_ | refine gen_calls H161.out ?_
                intro w162 hG
                clear H161
                have H161 := hid hG
                clear hG
                go_wp2_with fail
                go_roundw
                case rel => exact ⟨j + 1, _, by omega, by rw [List.length_set]; exact HLlc.out, by go_num, H161.out⟩
                case measure => first | (simp [intOf]; omega) | (simp [intOf]; done)
              · skip
                have hjn' : ¬ ((j : Int) < l127.length) := by omega
                have z163 := H156.out.cell 0 rfl 0 rfl
                have z164 := H156.out.cell 0 rfl 1 rfl
                have z165 := H156.out.cell 0 rfl 2 rfl
                have z166 := H156.out.cell 0 rfl 3 rfl
                have z167 := H156.out.cell 11 rfl 0 rfl
                have z168 := H156.out.cell 11 rfl 1 rfl
                have z169 := H156.out.cell 11 rfl 2 rfl
                have z170 := H156.out.cell 11 rfl 3 rfl
                have z171 := H156.out.cell 6 rfl 0 rfl
                have z172 := H156.out.cell 6 rfl 1 rfl
                have z173 := H156.out.cell 6 rfl 2 rfl
                have z174 := H156.out.cell 6 rfl 3 rfl
                go_wp2_with fail
                clear z163 z164 z165 z166 z167 z168 z169 z170 z171 z172 z173 z174
                refine (pcrop_any _ _ _ _ _ _ ps10 _ _ _ _ _ (H156.out.slc 12 rfl)).mono ?_
                rintro e w175 ⟨v176, rfl, ho, hb⟩
                have hcv := crop_ok HVps10.out HWq36.out
                have hci : ∀ z, cIf pw10 ph10 pm10 ps10 q36_0 q36_1 q36_2 q36_3 z = z := fun z => by unfold cIf; rw [if_pos hcv]
                have hcl : cList pw10 ph10 pm10 ps10 q36_0 q36_1 q36_2 q36_3 = cAll pw10 ps10 q36_0 q36_1 q36_2 q36_3 := by unfold cList; rw [if_pos hcv]
                simp only [hci, hcv]
                rw [hcl] at ho
                clear hci hcl hcv
                rw [HNl53.out] at ho
                rw [HNcw54.out]
                rw [HNch55.out]
                have HVl53 := hid (show pValid cw54 ch55 pm10 l53 = true from by rw [← HNcw54.out, ← HNch55.out, ← HNl53.out]; exact crop_valid HVps10.out HWq36.out)
                have H177 := hid (H156.out.grow hb ho)
                obtain ⟨v176a, v176c, rfl, _⟩ := ho.slc
                clear ho hb
                obtain ⟨D178, hD178⟩ : ∃ D, w175.heap.size = D := ⟨_, rfl⟩
                go_upto_region 24 with fail
                have H179 := hid (show St B W [.cells D178 #[.int .i64 cw54, .int .i64 ch55, .int .i64 pm10, .slice v176a l53.length v176c] 26, .own (.slice v176a l53.length v176c) l53, .cells D128 #[.int .i64 1, .int .i64 1, .int .i64 pm16, .slice v125a l127.length v125c] 26, .own (.slice v125a l127.length v125c) lc, .cells DD #[.int .i64 pw10, .int .i64 ph10, .int .i64 pm10, .slice ba lb.length bc] 26, .own (.slice ba lb.length bc) lq, .cells D56 #[.int .i64 cw54, .int .i64 ch55, .int .i64 pm10, .slice v51a l53.length v51c] 26, .own (.slice v51a l53.length v51c) la, .cells D39 #[.int .i64 q36_0, .int .i64 q36_1, .int .i64 q36_2, .int .i64 q36_3] 39, .cells D29 #[.int .i64 pw10, .int .i64 ph10, .int .i64 pm10, .slice v27a ps10.length v27c] 26, .own (.slice v27a ps10.length v27c) ps10, .cells D19 #[.int .i64 1, .int .i64 1, .int .i64 pm16, .slice pv16a ps16.length pv16c] 26, .own (.slice pv16a ps16.length pv16c) ps16, .cells D13 #[.int .i64 pw10, .int .i64 ph10, .int .i64 pm10, .slice pv10a ps10.length pv10c] 26, .own (.slice pv10a ps10.length pv10c) ps10, .tape K1] [] (w175.alloc (.cells #[.int .i64 cw54, .int .i64 ch55, .int .i64 pm10, .slice v176a l53.length v176c] 26)) from (H177.out.alloc #[.int .i64 cw54, .int .i64 ch55, .int .i64 pm10, .slice v176a l53.length v176c] 26 hD178))
                first | refine gen_code H179.out ?_ | refine gen_list H179.out ?_ | refine gen_calls H179.out ?_
                intro w180 hG
                clear H179
                have H179 := hid hG
                clear hG
                clear hD178
                have z181 := H179.out.cell 13 rfl 0 rfl
                have z182 := H179.out.cell 13 rfl 1 rfl
                have z183 := H179.out.cell 13 rfl 2 rfl
                have z184 := H179.out.cell 13 rfl 3 rfl
                have z185 := H179.out.cell 9 rfl 0 rfl
                have z186 := H179.out.cell 9 rfl 1 rfl
                have z187 := H179.out.cell 9 rfl 2 rfl
                have z188 := H179.out.cell 9 rfl 3 rfl
                go_wp2_with fail
                clear z181 z182 z183 z184 z185 z186 z187 z188
                refine (pequal_any _ _ _ _ _ _ ps10 _ _ _ _ _ _ ps10 _ (H179.out.slc 14 rfl) (H179.out.slc 10 rfl)).mono ?_
                rintro e w189 ⟨rfl, hb⟩
                have H190 := hid (H179.out.call hb)
                clear hb
                rw [show pEq pw10 ph10 pm10 ps10 pw10 ph10 pm10 ps10 = true from by simp [pEq]]
                have z191 := H190.out.cell 11 rfl 0 rfl
                have z192 := H190.out.cell 11 rfl 1 rfl
                have z193 := H190.out.cell 11 rfl 2 rfl
                have z194 := H190.out.cell 11 rfl 3 rfl
                go_wp2_with fail
                clear z191 z192 z193 z194
                refine (qpvalid_any _ _ _ _ _ _ ps16 _ (by have := (H190.out.slc 12 rfl).nc; have := (H190.out.slc 12 rfl).cap; omega) (H190.out.slc 12 rfl).row).mono ?_
                rintro e w195 ⟨rfl, hb⟩
                have H196 := hid (H190.out.call hb)
                clear hb
                rw [HVps16.out]
                have z197 := H196.out.cell 0 rfl 0 rfl
                have z198 := H196.out.cell 0 rfl 1 rfl
                have z199 := H196.out.cell 0 rfl 2 rfl
                have z200 := H196.out.cell 0 rfl 3 rfl
                go_wp2_with fail
                clear z197 z198 z199 z200
                refine (pvalid_any _ _ _ _ _ _ l53 _ (by have := (H196.out.slc 1 rfl).nc; have := (H196.out.slc 1 rfl).cap; omega) (H196.out.slc 1 rfl).row).mono ?_
                rintro e w201 ⟨rfl, hb⟩
                have H202 := hid (H196.out.call hb)
                clear hb
                rw [HVl53.out]
                go_wp2_with fail
                refine (sane4 _).mono ?_
                rintro e w203 ⟨rfl, hb⟩
                have H204 := hid (H202.out.call hb)
                clear hb
                go_wp2_with fail
                go_ret
                exact ⟨rfl, by first | exact H204.out.below | exact H204.out.below'⟩
end Go.Proofs.Ytoojiabdgaflgaa
