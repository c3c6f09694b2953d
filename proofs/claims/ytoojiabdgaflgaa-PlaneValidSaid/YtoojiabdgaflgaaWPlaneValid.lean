/-
  The walk of PlaneValid: valid, equal and new planes of the program are those of the reference.
-/
import Derived.Test.YtoojiabdgaflgaaSane4
import Derived.Test.YtoojiabdgaflgaaTRect
import Derived.Test.YtoojiabdgaflgaaNear
import Derived.Test.YtoojiabdgaflgaaSpoil
namespace Go.Proofs.Ytoojiabdgaflgaa
open Go.RowKit
attribute [local go_sem ↓] Go.wp_at_zero Go.wp_at_succ
set_option linter.unusedVariables false
set_option linter.unusedSimpArgs false

set_option maxRecDepth 100000 in
set_option maxHeartbeats 12800000 in
theorem walk_PlaneValid (a : Option Addr) (n c : Nat) (zs : List Int) (pw ph pm : Int) (pa : Option Addr) (pn pc : Nat) (pl : List Int) (w h mx : Int) (W : World) (hr : RowIn .i64 W a n c zs) (_ : I64 pw) (_ : I64 ph) (_ : I64 pm) (hp : RowIn .i64 W pa pn pc pl) (_ : I64 w) (_ : I64 h) (_ : I64 mx) :
    Calls Try.prog 13 #[.slice a n c, .agg #[.int .i64 pw, .int .i64 ph, .int .i64 pm, .slice pa pn pc], .int .i64 w, .int .i64 h, .int .i64 mx] W fun e w' => e = .returned (.bool true) ∧ Below W.heap.size W w' := by
  obtain ⟨B, hB⟩ : ∃ B, W.heap.size = B := ⟨_, rfl⟩
  have HI0 := hid (St.init hB)
  have HN := hid (nearRow hr hB)
  have HR := hid hr
  clear hr
  have HP := hid (show Slc W pa pn pc pl from ⟨hp.row, hp.nc, hp.cap⟩)
  have hpl : (pn : Int) ≤ 9223372036854775807 := by have := hp.len; omega
  clear hp
  go_enter Try.func13, Try.ntmps13
  go_upto_region 1 with fail
  have H1 := hid (show St B W [.cells B #[.int .i64 pw, .int .i64 ph, .int .i64 pm, .slice pa pn pc] 26] [] (W.alloc (.cells #[.int .i64 pw, .int .i64 ph, .int .i64 pm, .slice pa pn pc] 26)) from (HI0.out.alloc #[.int .i64 pw, .int .i64 ph, .int .i64 pm, .slice pa pn pc] 26 hB))
  first | refine gen_code H1.out ?_ | refine gen_list H1.out ?_ | refine gen_calls H1.out ?_
  intro w2 hG
  clear H1
  have H1 := hid hG
  clear hG
  go_wp2_with fail
  obtain ⟨K3, hK3⟩ : ∃ D, w2.heap.size = D := ⟨_, rfl⟩
  refine (newB_any B _ _ _ _ _ HR.out.len (H1.out.oldRow HR.out.row) HN.out H1.out.size).mono ?_
  rintro e w4 ⟨rfl, ht, hb, hs⟩
  rw [hK3] at ht ⊢
  have H5 := hid (H1.out.newTape ht hb hK3)
  clear ht hb hs hK3
  go_wp2_with fail
  go_loopw [12] (fun i wr => ∃ j : Nat, j ≤ 4 ∧ i = .int .i64 j ∧ St B W [.tape K3, .cells B #[.int .i64 pw, .int .i64 ph, .int .i64 pm, .slice pa pn pc] 26] [] wr) (fun i _ => 4 - (intOf i).toNat)
  case atStart => exact ⟨0, by omega, rfl, H5.out⟩
  case round =>
    obtain ⟨j, hj, rfl, hst⟩ := hrel
    obtain ⟨u6, rfl⟩ : ∃ u6 : World, u6 = wr := ⟨_, rfl⟩
    have H7 := hid hst
    clear hst
    by_cases c8 : (j : Int) < 4
    · skip
      go_wp2_with fail
      refine (plane_any B K3 _ (H7.out.tapeAt 0 rfl)).mono ?_
      rintro e w10 ⟨pw9, ph9, pw91, pw92, ph91, ph92, pm9, pv9, ps9, rfl, hv, hm, ho, ht, hg⟩
      have H11 := hid (H7.out.add (H7.out.next 0 rfl ht hg) ho)
      have HVps9 := hid hv
      have HMps9 := hid hm
      obtain ⟨pv9a, pv9c, rfl, _⟩ := ho.slc
      clear hv hm ho ht hg
      obtain ⟨D12, hD12⟩ : ∃ D, w10.heap.size = D := ⟨_, rfl⟩
      go_upto_region 6 with fail
      have H13 := hid (show St B W [.cells D12 #[.int .i64 pw9, .int .i64 ph9, .int .i64 pm9, .slice pv9a ps9.length pv9c] 26, .own (.slice pv9a ps9.length pv9c) ps9, .tape K3, .cells B #[.int .i64 pw, .int .i64 ph, .int .i64 pm, .slice pa pn pc] 26] [] (w10.alloc (.cells #[.int .i64 pw9, .int .i64 ph9, .int .i64 pm9, .slice pv9a ps9.length pv9c] 26)) from (H11.out.alloc #[.int .i64 pw9, .int .i64 ph9, .int .i64 pm9, .slice pv9a ps9.length pv9c] 26 hD12))
      first | refine gen_code H13.out ?_ | refine gen_list H13.out ?_ | refine gen_calls H13.out ?_
      intro w14 hG
      clear H13
      have H13 := hid hG
      clear hG
      clear hD12
      have z15 := H13.out.cell 0 rfl 0 rfl
      have z16 := H13.out.cell 0 rfl 1 rfl
      have z17 := H13.out.cell 0 rfl 2 rfl
      have z18 := H13.out.cell 0 rfl 3 rfl
      go_wp2_with fail
      clear z15 z16 z17 z18
      refine (spoil_any B K3 _ _ _ _ _ _ _ _ (H13.out.slc 1 rfl) (H13.out.farSlc 1 2 rfl rfl (by decide) rfl) HVps9.out (H13.out.tapeAt 2 rfl)).mono ?_
      rintro e w20 ⟨pw19, ph19, pm19, pv19, ps19, rfl, ho, ht, hg⟩
      have H21 := hid (H13.out.add (H13.out.next 2 rfl ht hg) ho)
      obtain ⟨pv19a, pv19c, rfl, _⟩ := ho.slc
      clear ho ht hg
      obtain ⟨D22, hD22⟩ : ∃ D, w20.heap.size = D := ⟨_, rfl⟩
      go_upto_region 7 with fail
      have H23 := hid (show St B W [.cells D22 #[.int .i64 pw19, .int .i64 ph19, .int .i64 pm19, .slice pv19a ps19.length pv19c] 26, .own (.slice pv19a ps19.length pv19c) ps19, .cells D12 #[.int .i64 pw9, .int .i64 ph9, .int .i64 pm9, .slice pv9a ps9.length pv9c] 26, .own (.slice pv9a ps9.length pv9c) ps9, .tape K3, .cells B #[.int .i64 pw, .int .i64 ph, .int .i64 pm, .slice pa pn pc] 26] [] (w20.alloc (.cells #[.int .i64 pw19, .int .i64 ph19, .int .i64 pm19, .slice pv19a ps19.length pv19c] 26)) from (H21.out.alloc #[.int .i64 pw19, .int .i64 ph19, .int .i64 pm19, .slice pv19a ps19.length pv19c] 26 hD22))
      first | refine gen_code H23.out ?_ | refine gen_list H23.out ?_ | refine gen_calls H23.out ?_
      intro w24 hG
      clear H23
      have H23 := hid hG
      clear hG
      clear hD22
      have H25 := hid H23.out.drew
      refine wp_region_held_drew (S := (fun w' => w'.cell? ⟨D12, 0, none⟩ = some (.int .i64 pw9) ∧ w'.cell? ⟨D12, 1, none⟩ = some (.int .i64 ph9) ∧ w'.cell? ⟨D12, 2, none⟩ = some (.int .i64 pm9) ∧ w'.cell? ⟨D12, 3, none⟩ = some (.slice pv9a ps9.length pv9c) ∧ w'.cell? ⟨D22, 0, none⟩ = some (.int .i64 pw19) ∧ w'.cell? ⟨D22, 1, none⟩ = some (.int .i64 ph19) ∧ w'.cell? ⟨D22, 2, none⟩ = some (.int .i64 pm19) ∧ w'.cell? ⟨D22, 3, none⟩ = some (.slice pv19a ps19.length pv19c) ∧ w'.cell? ⟨B, 0, none⟩ = some (.int .i64 pw) ∧ w'.cell? ⟨B, 1, none⟩ = some (.int .i64 ph) ∧ w'.cell? ⟨B, 2, none⟩ = some (.int .i64 pm) ∧ w'.cell? ⟨B, 3, none⟩ = some (.slice pa pn pc))) (by kernel_rfl) ⟨H25.out.cell 2 rfl 0 rfl, H25.out.cell 2 rfl 1 rfl, H25.out.cell 2 rfl 2 rfl, H25.out.cell 2 rfl 3 rfl, H25.out.cell 0 rfl 0 rfl, H25.out.cell 0 rfl 1 rfl, H25.out.cell 0 rfl 2 rfl, H25.out.cell 0 rfl 3 rfl, H25.out.cell 5 rfl 0 rfl, H25.out.cell 5 rfl 1 rfl, H25.out.cell 5 rfl 2 rfl, H25.out.cell 5 rfl 3 rfl⟩ (fun hHeld => ?_)
      generalize w24.drew = k26 at *
      refine wpAnyH_take (i := 0) (oi := _) (v := ?_) rfl (by kernel_rfl) (by kernel_rfl) (by kernel_rfl) (fun _ _ _ h => h) (Or.inl ⟨by rfl, ?_⟩) (by assumption) ?_
      rotate_left
      focus (intro wS hSw; (try dsimp only at hSw); go_simp; (try with_reducible rfl))
      try simp only [Act.put, List.getElem_toArray, List.getElem_cons_zero, List.getElem_cons_succ, List.setIfInBounds_toArray, List.set_cons_zero, List.set_cons_succ]
      refine wpAnyH_take (i := 2) (oi := _) (v := ?_) rfl (by kernel_rfl) (by kernel_rfl) (by kernel_rfl) (fun _ _ _ h => h) (Or.inl ⟨by rfl, ?_⟩) (by assumption) ?_
      rotate_left
      focus (intro wS hSw; (try dsimp only at hSw); go_simp; (try with_reducible rfl))
      try simp only [Act.put, List.getElem_toArray, List.getElem_cons_zero, List.getElem_cons_succ, List.setIfInBounds_toArray, List.set_cons_zero, List.set_cons_succ]
      refine wpAnyH_ready (rs := [1]) (by kernel_rfl) (by simp) (AllReadyH.cons (o := _) rfl (fun K hK => ?_) AllReadyH.nil)
      go_simp
      go_at_call 53
      refine (pvalid_any _ _ _ _ _ _ ps9 _ (by have := (H25.out.slc 3 rfl).nc; have := (H25.out.slc 3 rfl).cap; omega) (H25.out.slc 3 rfl).row).mono ?_
      rintro e w27 ⟨rfl, hb⟩
      have H28 := hid (H25.out.call hb)
      clear hb
      obtain ⟨b29, hb29⟩ : ∃ z, pValid pw9 ph9 pm9 ps9 = z := ⟨_, rfl⟩
      rw [hb29]
      have HNb29 := hid hb29
      clear hb29
      refine hK.out _ _ ?_ (fun hHeld2 => ?_)
      focus ((try dsimp only); (exact ⟨H28.out.cell 2 rfl 0 rfl, H28.out.cell 2 rfl 1 rfl, H28.out.cell 2 rfl 2 rfl, H28.out.cell 2 rfl 3 rfl, H28.out.cell 0 rfl 0 rfl, H28.out.cell 0 rfl 1 rfl, H28.out.cell 0 rfl 2 rfl, H28.out.cell 0 rfl 3 rfl, H28.out.cell 5 rfl 0 rfl, H28.out.cell 5 rfl 1 rfl, H28.out.cell 5 rfl 2 rfl, H28.out.cell 5 rfl 3 rfl⟩))
      clear hK K
      try simp only [Act.put, List.getElem_toArray, List.getElem_cons_zero, List.getElem_cons_succ, List.setIfInBounds_toArray, List.set_cons_zero, List.set_cons_succ]
      clear hHeld
      have hHeld := hHeld2
      clear hHeld2
      refine wpAnyH_ready (rs := [3]) (by kernel_rfl) (by simp) (AllReadyH.cons (o := _) rfl (fun K hK => ?_) AllReadyH.nil)
      go_simp
      go_at_call 52
      refine (qpvalid_any _ _ _ _ _ _ ps9 _ (by have := (H28.out.slc 3 rfl).nc; have := (H28.out.slc 3 rfl).cap; omega) (H28.out.slc 3 rfl).row).mono ?_
      rintro e w30 ⟨rfl, hb⟩
      have H31 := hid (H28.out.call hb)
      clear hb
      rw [HNb29.out]
      refine hK.out _ _ ?_ (fun hHeld2 => ?_)
      focus ((try dsimp only); (exact ⟨H31.out.cell 2 rfl 0 rfl, H31.out.cell 2 rfl 1 rfl, H31.out.cell 2 rfl 2 rfl, H31.out.cell 2 rfl 3 rfl, H31.out.cell 0 rfl 0 rfl, H31.out.cell 0 rfl 1 rfl, H31.out.cell 0 rfl 2 rfl, H31.out.cell 0 rfl 3 rfl, H31.out.cell 5 rfl 0 rfl, H31.out.cell 5 rfl 1 rfl, H31.out.cell 5 rfl 2 rfl, H31.out.cell 5 rfl 3 rfl⟩))
      clear hK K
      try simp only [Act.put, List.getElem_toArray, List.getElem_cons_zero, List.getElem_cons_succ, List.setIfInBounds_toArray, List.set_cons_zero, List.set_cons_succ]
      clear hHeld
      have hHeld := hHeld2
      clear hHeld2
      refine wpAnyH_take (i := 4) (oi := _) (v := ?_) rfl (by kernel_rfl) (by kernel_rfl) (by kernel_rfl) (fun _ _ _ h => h) (Or.inl ⟨by rfl, ?_⟩) (by assumption) ?_
      rotate_left
      focus (intro wS hSw; (try dsimp only at hSw); go_simp; (try with_reducible rfl))
      try simp only [Act.put, List.getElem_toArray, List.getElem_cons_zero, List.getElem_cons_succ, List.setIfInBounds_toArray, List.set_cons_zero, List.set_cons_succ]
      refine wpAnyH_take (i := 5) (oi := _) (v := ?_) rfl (by kernel_rfl) (by kernel_rfl) (by kernel_rfl) (fun _ _ _ h => h) (Or.inl ⟨by rfl, ?_⟩) (by assumption) ?_
      rotate_left
      focus (intro wS hSw; (try dsimp only at hSw); go_simp; (try with_reducible rfl))
      try simp only [Act.put, List.getElem_toArray, List.getElem_cons_zero, List.getElem_cons_succ, List.setIfInBounds_toArray, List.set_cons_zero, List.set_cons_succ]
      refine wpAnyH_take (i := 6) (oi := _) (v := ?_) rfl (by kernel_rfl) (by kernel_rfl) (by kernel_rfl) (fun _ _ _ h => h) (Or.inl ⟨by rfl, ?_⟩) (by assumption) ?_
      rotate_left
      focus (intro wS hSw; (try dsimp only at hSw); go_simp; (try with_reducible rfl))
      try simp only [Act.put, List.getElem_toArray, List.getElem_cons_zero, List.getElem_cons_succ, List.setIfInBounds_toArray, List.set_cons_zero, List.set_cons_succ]
      refine wpAnyH_take (i := 8) (oi := _) (v := ?_) rfl (by kernel_rfl) (by kernel_rfl) (by kernel_rfl) (fun _ _ _ h => h) (Or.inl ⟨by rfl, ?_⟩) (by assumption) ?_
      rotate_left
      focus (intro wS hSw; (try dsimp only at hSw); go_simp; (try with_reducible rfl))
      try simp only [Act.put, List.getElem_toArray, List.getElem_cons_zero, List.getElem_cons_succ, List.setIfInBounds_toArray, List.set_cons_zero, List.set_cons_succ]
      refine wpAnyH_ready (rs := [7]) (by kernel_rfl) (by simp) (AllReadyH.cons (o := _) rfl (fun K hK => ?_) AllReadyH.nil)
      go_simp
      go_at_call 53
      refine (pvalid_any _ _ _ _ _ _ ps19 _ (by have := (H31.out.slc 1 rfl).nc; have := (H31.out.slc 1 rfl).cap; omega) (H31.out.slc 1 rfl).row).mono ?_
      rintro e w32 ⟨rfl, hb⟩
      have H33 := hid (H31.out.call hb)
      clear hb
      obtain ⟨b34, hb34⟩ : ∃ z, pValid pw19 ph19 pm19 ps19 = z := ⟨_, rfl⟩
      rw [hb34]
      have HNb34 := hid hb34
      clear hb34
      refine hK.out _ _ ?_ (fun hHeld2 => ?_)
      focus ((try dsimp only); (exact ⟨H33.out.cell 2 rfl 0 rfl, H33.out.cell 2 rfl 1 rfl, H33.out.cell 2 rfl 2 rfl, H33.out.cell 2 rfl 3 rfl, H33.out.cell 0 rfl 0 rfl, H33.out.cell 0 rfl 1 rfl, H33.out.cell 0 rfl 2 rfl, H33.out.cell 0 rfl 3 rfl, H33.out.cell 5 rfl 0 rfl, H33.out.cell 5 rfl 1 rfl, H33.out.cell 5 rfl 2 rfl, H33.out.cell 5 rfl 3 rfl⟩))
      clear hK K
      try simp only [Act.put, List.getElem_toArray, List.getElem_cons_zero, List.getElem_cons_succ, List.setIfInBounds_toArray, List.set_cons_zero, List.set_cons_succ]
      clear hHeld
      have hHeld := hHeld2
      clear hHeld2
      refine wpAnyH_ready (rs := [9]) (by kernel_rfl) (by simp) (AllReadyH.cons (o := _) rfl (fun K hK => ?_) AllReadyH.nil)
      go_simp
      go_at_call 52
      refine (qpvalid_any _ _ _ _ _ _ ps19 _ (by have := (H33.out.slc 1 rfl).nc; have := (H33.out.slc 1 rfl).cap; omega) (H33.out.slc 1 rfl).row).mono ?_
      rintro e w35 ⟨rfl, hb⟩
      have H36 := hid (H33.out.call hb)
      clear hb
      rw [HNb34.out]
      refine hK.out _ _ ?_ (fun hHeld2 => ?_)
      focus ((try dsimp only); (exact ⟨H36.out.cell 2 rfl 0 rfl, H36.out.cell 2 rfl 1 rfl, H36.out.cell 2 rfl 2 rfl, H36.out.cell 2 rfl 3 rfl, H36.out.cell 0 rfl 0 rfl, H36.out.cell 0 rfl 1 rfl, H36.out.cell 0 rfl 2 rfl, H36.out.cell 0 rfl 3 rfl, H36.out.cell 5 rfl 0 rfl, H36.out.cell 5 rfl 1 rfl, H36.out.cell 5 rfl 2 rfl, H36.out.cell 5 rfl 3 rfl⟩))
      clear hK K
      try simp only [Act.put, List.getElem_toArray, List.getElem_cons_zero, List.getElem_cons_succ, List.setIfInBounds_toArray, List.set_cons_zero, List.set_cons_succ]
      clear hHeld
      have hHeld := hHeld2
      clear hHeld2
      refine wpAnyH_take (i := 10) (oi := _) (v := ?_) rfl (by kernel_rfl) (by kernel_rfl) (by kernel_rfl) (fun _ _ _ h => h) (Or.inl ⟨by rfl, ?_⟩) (by assumption) ?_
      rotate_left
      focus (intro wS hSw; (try dsimp only at hSw); go_simp; (try with_reducible rfl))
      try simp only [Act.put, List.getElem_toArray, List.getElem_cons_zero, List.getElem_cons_succ, List.setIfInBounds_toArray, List.set_cons_zero, List.set_cons_succ]
      refine wpAnyH_take (i := 11) (oi := _) (v := ?_) rfl (by kernel_rfl) (by kernel_rfl) (by kernel_rfl) (fun _ _ _ h => h) (Or.inl ⟨by rfl, ?_⟩) (by assumption) ?_
      rotate_left
      focus (intro wS hSw; (try dsimp only at hSw); go_simp; (try with_reducible rfl))
      try simp only [Act.put, List.getElem_toArray, List.getElem_cons_zero, List.getElem_cons_succ, List.setIfInBounds_toArray, List.set_cons_zero, List.set_cons_succ]
      refine wpAnyH_take (i := 12) (oi := _) (v := ?_) rfl (by kernel_rfl) (by kernel_rfl) (by kernel_rfl) (fun _ _ _ h => h) (Or.inl ⟨by rfl, ?_⟩) (by assumption) ?_
      rotate_left
      focus (intro wS hSw; (try dsimp only at hSw); go_simp; (try with_reducible rfl))
      try simp only [Act.put, List.getElem_toArray, List.getElem_cons_zero, List.getElem_cons_succ, List.setIfInBounds_toArray, List.set_cons_zero, List.set_cons_succ]
      refine wpAnyH_take (i := 13) (oi := _) (v := ?_) rfl (by kernel_rfl) (by kernel_rfl) (by kernel_rfl) (fun _ _ _ h => h) (Or.inl ⟨by rfl, ?_⟩) (by assumption) ?_
      rotate_left
      focus (intro wS hSw; (try dsimp only at hSw); go_simp; (try with_reducible rfl))
      try simp only [Act.put, List.getElem_toArray, List.getElem_cons_zero, List.getElem_cons_succ, List.setIfInBounds_toArray, List.set_cons_zero, List.set_cons_succ]
      refine wpAnyH_take (i := 14) (oi := _) (v := ?_) rfl (by kernel_rfl) (by kernel_rfl) (by kernel_rfl) (fun _ _ _ h => h) (Or.inl ⟨by rfl, ?_⟩) (by assumption) ?_
      rotate_left
      focus (intro wS hSw; (try dsimp only at hSw); go_simp; (try with_reducible rfl))
      try simp only [Act.put, List.getElem_toArray, List.getElem_cons_zero, List.getElem_cons_succ, List.setIfInBounds_toArray, List.set_cons_zero, List.set_cons_succ]
      refine wpAnyH_take (i := 16) (oi := _) (v := ?_) rfl (by kernel_rfl) (by kernel_rfl) (by kernel_rfl) (fun _ _ _ h => h) (Or.inl ⟨by rfl, ?_⟩) (by assumption) ?_
      rotate_left
      focus (intro wS hSw; (try dsimp only at hSw); go_simp; (try with_reducible rfl))
      try simp only [Act.put, List.getElem_toArray, List.getElem_cons_zero, List.getElem_cons_succ, List.setIfInBounds_toArray, List.set_cons_zero, List.set_cons_succ]
      refine wpAnyH_take (i := 17) (oi := _) (v := ?_) rfl (by kernel_rfl) (by kernel_rfl) (by kernel_rfl) (fun _ _ _ h => h) (Or.inl ⟨by rfl, ?_⟩) (by assumption) ?_
      rotate_left
      focus (intro wS hSw; (try dsimp only at hSw); go_simp; (try with_reducible rfl))
      try simp only [Act.put, List.getElem_toArray, List.getElem_cons_zero, List.getElem_cons_succ, List.setIfInBounds_toArray, List.set_cons_zero, List.set_cons_succ]
      refine wpAnyH_ready (rs := [15]) (by kernel_rfl) (by simp) (AllReadyH.cons (o := _) rfl (fun K hK => ?_) AllReadyH.nil)
      go_simp
      go_at_call 51
      refine (pequal_any _ _ _ _ _ _ ps9 _ _ _ _ _ _ ps19 _ (H36.out.slc 3 rfl) (H36.out.slc 1 rfl)).mono ?_
      rintro e w37 ⟨rfl, hb⟩
      have H38 := hid (H36.out.call hb)
      clear hb
      obtain ⟨b39, hb39⟩ : ∃ z, pEq pw9 ph9 pm9 ps9 pw19 ph19 pm19 ps19 = z := ⟨_, rfl⟩
      rw [hb39]
      have HNb39 := hid hb39
      clear hb39
      refine hK.out _ _ ?_ (fun hHeld2 => ?_)
      focus ((try dsimp only); (exact ⟨H38.out.cell 2 rfl 0 rfl, H38.out.cell 2 rfl 1 rfl, H38.out.cell 2 rfl 2 rfl, H38.out.cell 2 rfl 3 rfl, H38.out.cell 0 rfl 0 rfl, H38.out.cell 0 rfl 1 rfl, H38.out.cell 0 rfl 2 rfl, H38.out.cell 0 rfl 3 rfl, H38.out.cell 5 rfl 0 rfl, H38.out.cell 5 rfl 1 rfl, H38.out.cell 5 rfl 2 rfl, H38.out.cell 5 rfl 3 rfl⟩))
      clear hK K
      try simp only [Act.put, List.getElem_toArray, List.getElem_cons_zero, List.getElem_cons_succ, List.setIfInBounds_toArray, List.set_cons_zero, List.set_cons_succ]
      clear hHeld
      have hHeld := hHeld2
      clear hHeld2
      refine wpAnyH_ready (rs := [18]) (by kernel_rfl) (by simp) (AllReadyH.cons (o := _) rfl (fun K hK => ?_) AllReadyH.nil)
      go_simp
      go_at_call 24
      refine (qequal_any _ _ _ _ _ _ ps9 _ _ _ _ _ _ ps19 _ (H38.out.slc 3 rfl) (H38.out.slc 1 rfl)).mono ?_
      rintro e w40 ⟨rfl, hb⟩
      have H41 := hid (H38.out.call hb)
      clear hb
      rw [HNb39.out]
      refine hK.out _ _ ?_ (fun hHeld2 => ?_)
      focus ((try dsimp only); (exact ⟨H41.out.cell 2 rfl 0 rfl, H41.out.cell 2 rfl 1 rfl, H41.out.cell 2 rfl 2 rfl, H41.out.cell 2 rfl 3 rfl, H41.out.cell 0 rfl 0 rfl, H41.out.cell 0 rfl 1 rfl, H41.out.cell 0 rfl 2 rfl, H41.out.cell 0 rfl 3 rfl, H41.out.cell 5 rfl 0 rfl, H41.out.cell 5 rfl 1 rfl, H41.out.cell 5 rfl 2 rfl, H41.out.cell 5 rfl 3 rfl⟩))
      clear hK K
      try simp only [Act.put, List.getElem_toArray, List.getElem_cons_zero, List.getElem_cons_succ, List.setIfInBounds_toArray, List.set_cons_zero, List.set_cons_succ]
      clear hHeld
      have hHeld := hHeld2
      clear hHeld2
      refine wpAnyH_take (i := 19) (oi := _) (v := ?_) rfl (by kernel_rfl) (by kernel_rfl) (by kernel_rfl) (fun _ _ _ h => h) (Or.inl ⟨by rfl, ?_⟩) (by assumption) ?_
      rotate_left
      focus (intro wS hSw; (try dsimp only at hSw); go_simp; (try with_reducible rfl))
      try simp only [Act.put, List.getElem_toArray, List.getElem_cons_zero, List.getElem_cons_succ, List.setIfInBounds_toArray, List.set_cons_zero, List.set_cons_succ]
      refine wpAnyH_take (i := 20) (oi := _) (v := ?_) rfl (by kernel_rfl) (by kernel_rfl) (by kernel_rfl) (fun _ _ _ h => h) (Or.inl ⟨by rfl, ?_⟩) (by assumption) ?_
      rotate_left
      focus (intro wS hSw; (try dsimp only at hSw); go_simp; (try with_reducible rfl))
      try simp only [Act.put, List.getElem_toArray, List.getElem_cons_zero, List.getElem_cons_succ, List.setIfInBounds_toArray, List.set_cons_zero, List.set_cons_succ]
      refine wpAnyH_take (i := 21) (oi := _) (v := ?_) rfl (by kernel_rfl) (by kernel_rfl) (by kernel_rfl) (fun _ _ _ h => h) (Or.inl ⟨by rfl, ?_⟩) (by assumption) ?_
      rotate_left
      focus (intro wS hSw; (try dsimp only at hSw); go_simp; (try with_reducible rfl))
      try simp only [Act.put, List.getElem_toArray, List.getElem_cons_zero, List.getElem_cons_succ, List.setIfInBounds_toArray, List.set_cons_zero, List.set_cons_succ]
      refine wpAnyH_take (i := 22) (oi := _) (v := ?_) rfl (by kernel_rfl) (by kernel_rfl) (by kernel_rfl) (fun _ _ _ h => h) (Or.inl ⟨by rfl, ?_⟩) (by assumption) ?_
      rotate_left
      focus (intro wS hSw; (try dsimp only at hSw); go_simp; (try with_reducible rfl))
      try simp only [Act.put, List.getElem_toArray, List.getElem_cons_zero, List.getElem_cons_succ, List.setIfInBounds_toArray, List.set_cons_zero, List.set_cons_succ]
      refine wpAnyH_take (i := 23) (oi := _) (v := ?_) rfl (by kernel_rfl) (by kernel_rfl) (by kernel_rfl) (fun _ _ _ h => h) (Or.inl ⟨by rfl, ?_⟩) (by assumption) ?_
      rotate_left
      focus (intro wS hSw; (try dsimp only at hSw); go_simp; (try with_reducible rfl))
      try simp only [Act.put, List.getElem_toArray, List.getElem_cons_zero, List.getElem_cons_succ, List.setIfInBounds_toArray, List.set_cons_zero, List.set_cons_succ]
      refine wpAnyH_ready (rs := [24]) (by kernel_rfl) (by simp) (AllReadyH.cons (o := _) rfl (fun K hK => ?_) AllReadyH.nil)
      go_simp
      go_at_call 51
      refine (pequal_any _ _ _ _ _ _ ps9 _ _ _ _ _ _ ps9 _ (H41.out.slc 3 rfl) (H41.out.slc 3 rfl)).mono ?_
      rintro e w42 ⟨rfl, hb⟩
      have H43 := hid (H41.out.call hb)
      clear hb
      rw [show pEq pw9 ph9 pm9 ps9 pw9 ph9 pm9 ps9 = true from by simp [pEq]]
      refine hK.out _ _ ?_ (fun hHeld2 => ?_)
      focus ((try dsimp only); (exact ⟨H43.out.cell 2 rfl 0 rfl, H43.out.cell 2 rfl 1 rfl, H43.out.cell 2 rfl 2 rfl, H43.out.cell 2 rfl 3 rfl, H43.out.cell 0 rfl 0 rfl, H43.out.cell 0 rfl 1 rfl, H43.out.cell 0 rfl 2 rfl, H43.out.cell 0 rfl 3 rfl, H43.out.cell 5 rfl 0 rfl, H43.out.cell 5 rfl 1 rfl, H43.out.cell 5 rfl 2 rfl, H43.out.cell 5 rfl 3 rfl⟩))
      clear hK K
      try simp only [Act.put, List.getElem_toArray, List.getElem_cons_zero, List.getElem_cons_succ, List.setIfInBounds_toArray, List.set_cons_zero, List.set_cons_succ]
      clear hHeld
      have hHeld := hHeld2
      clear hHeld2
      refine wpAnyH_take (i := 25) (oi := _) (v := ?_) rfl (by kernel_rfl) (by kernel_rfl) (by kernel_rfl) (fun _ _ _ h => h) (Or.inl ⟨by rfl, ?_⟩) (by assumption) ?_
      rotate_left
      focus (intro wS hSw; (try dsimp only at hSw); go_simp; (try with_reducible rfl))
      try simp only [Act.put, List.getElem_toArray, List.getElem_cons_zero, List.getElem_cons_succ, List.setIfInBounds_toArray, List.set_cons_zero, List.set_cons_succ]
      refine wpAnyH_take (i := 26) (oi := _) (v := ?_) rfl (by kernel_rfl) (by kernel_rfl) (by kernel_rfl) (fun _ _ _ h => h) (Or.inl ⟨by rfl, ?_⟩) (by assumption) ?_
      rotate_left
      focus (intro wS hSw; (try dsimp only at hSw); go_simp; (try with_reducible rfl))
      try simp only [Act.put, List.getElem_toArray, List.getElem_cons_zero, List.getElem_cons_succ, List.setIfInBounds_toArray, List.set_cons_zero, List.set_cons_succ]
      refine wpAnyH_take (i := 27) (oi := _) (v := ?_) rfl (by kernel_rfl) (by kernel_rfl) (by kernel_rfl) (fun _ _ _ h => h) (Or.inl ⟨by rfl, ?_⟩) (by assumption) ?_
      rotate_left
      focus (intro wS hSw; (try dsimp only at hSw); go_simp; (try with_reducible rfl))
      try simp only [Act.put, List.getElem_toArray, List.getElem_cons_zero, List.getElem_cons_succ, List.setIfInBounds_toArray, List.set_cons_zero, List.set_cons_succ]
      refine wpAnyH_take (i := 28) (oi := _) (v := ?_) rfl (by kernel_rfl) (by kernel_rfl) (by kernel_rfl) (fun _ _ _ h => h) (Or.inl ⟨by rfl, ?_⟩) (by assumption) ?_
      rotate_left
      focus (intro wS hSw; (try dsimp only at hSw); go_simp; (try with_reducible rfl))
      try simp only [Act.put, List.getElem_toArray, List.getElem_cons_zero, List.getElem_cons_succ, List.setIfInBounds_toArray, List.set_cons_zero, List.set_cons_succ]
      refine wpAnyH_take (i := 29) (oi := _) (v := ?_) rfl (by kernel_rfl) (by kernel_rfl) (by kernel_rfl) (fun _ _ _ h => h) (Or.inl ⟨by rfl, ?_⟩) (by assumption) ?_
      rotate_left
      focus (intro wS hSw; (try dsimp only at hSw); go_simp; (try with_reducible rfl))
      try simp only [Act.put, List.getElem_toArray, List.getElem_cons_zero, List.getElem_cons_succ, List.setIfInBounds_toArray, List.set_cons_zero, List.set_cons_succ]
      refine wpAnyH_take (i := 31) (oi := _) (v := ?_) rfl (by kernel_rfl) (by kernel_rfl) (by kernel_rfl) (fun _ _ _ h => h) (Or.inl ⟨by rfl, ?_⟩) (by assumption) ?_
      rotate_left
      focus (intro wS hSw; (try dsimp only at hSw); go_simp; (try with_reducible rfl))
      try simp only [Act.put, List.getElem_toArray, List.getElem_cons_zero, List.getElem_cons_succ, List.setIfInBounds_toArray, List.set_cons_zero, List.set_cons_succ]
      refine wpAnyH_take (i := 32) (oi := _) (v := ?_) rfl (by kernel_rfl) (by kernel_rfl) (by kernel_rfl) (fun _ _ _ h => h) (Or.inl ⟨by rfl, ?_⟩) (by assumption) ?_
      rotate_left
      focus (intro wS hSw; (try dsimp only at hSw); go_simp; (try with_reducible rfl))
      try simp only [Act.put, List.getElem_toArray, List.getElem_cons_zero, List.getElem_cons_succ, List.setIfInBounds_toArray, List.set_cons_zero, List.set_cons_succ]
      refine wpAnyH_ready (rs := [30]) (by kernel_rfl) (by simp) (AllReadyH.cons (o := _) rfl (fun K hK => ?_) AllReadyH.nil)
      go_simp
      go_at_call 51
      refine (pequal_any _ _ _ _ _ _ pl _ _ _ _ _ _ ps9 _ (H43.out.old HP.out) (H43.out.slc 3 rfl)).mono ?_
      rintro e w44 ⟨rfl, hb⟩
      have H45 := hid (H43.out.call hb)
      clear hb
      obtain ⟨b46, hb46⟩ : ∃ z, pEq pw ph pm pl pw9 ph9 pm9 ps9 = z := ⟨_, rfl⟩
      rw [hb46]
      have HNb46 := hid hb46
      clear hb46
      refine hK.out _ _ ?_ (fun hHeld2 => ?_)
      focus ((try dsimp only); (exact ⟨H45.out.cell 2 rfl 0 rfl, H45.out.cell 2 rfl 1 rfl, H45.out.cell 2 rfl 2 rfl, H45.out.cell 2 rfl 3 rfl, H45.out.cell 0 rfl 0 rfl, H45.out.cell 0 rfl 1 rfl, H45.out.cell 0 rfl 2 rfl, H45.out.cell 0 rfl 3 rfl, H45.out.cell 5 rfl 0 rfl, H45.out.cell 5 rfl 1 rfl, H45.out.cell 5 rfl 2 rfl, H45.out.cell 5 rfl 3 rfl⟩))
      clear hK K
      try simp only [Act.put, List.getElem_toArray, List.getElem_cons_zero, List.getElem_cons_succ, List.setIfInBounds_toArray, List.set_cons_zero, List.set_cons_succ]
      clear hHeld
      have hHeld := hHeld2
      clear hHeld2
      refine wpAnyH_ready (rs := [33]) (by kernel_rfl) (by simp) (AllReadyH.cons (o := _) rfl (fun K hK => ?_) AllReadyH.nil)
      go_simp
      go_at_call 24
      refine (qequal_any _ _ _ _ _ _ pl _ _ _ _ _ _ ps9 _ (H45.out.old HP.out) (H45.out.slc 3 rfl)).mono ?_
      rintro e w47 ⟨rfl, hb⟩
      have H48 := hid (H45.out.call hb)
      clear hb
      rw [HNb46.out]
      refine hK.out _ _ ?_ (fun hHeld2 => ?_)
      focus ((try dsimp only); (exact ⟨H48.out.cell 2 rfl 0 rfl, H48.out.cell 2 rfl 1 rfl, H48.out.cell 2 rfl 2 rfl, H48.out.cell 2 rfl 3 rfl, H48.out.cell 0 rfl 0 rfl, H48.out.cell 0 rfl 1 rfl, H48.out.cell 0 rfl 2 rfl, H48.out.cell 0 rfl 3 rfl, H48.out.cell 5 rfl 0 rfl, H48.out.cell 5 rfl 1 rfl, H48.out.cell 5 rfl 2 rfl, H48.out.cell 5 rfl 3 rfl⟩))
      clear hK K
      try simp only [Act.put, List.getElem_toArray, List.getElem_cons_zero, List.getElem_cons_succ, List.setIfInBounds_toArray, List.set_cons_zero, List.set_cons_succ]
      clear hHeld
      have hHeld := hHeld2
      clear hHeld2
      refine wpAnyH_take (i := 34) (oi := _) (v := ?_) rfl (by kernel_rfl) (by kernel_rfl) (by kernel_rfl) (fun _ _ _ h => h) (Or.inl ⟨by rfl, ?_⟩) (by assumption) ?_
      rotate_left
      focus (intro wS hSw; (try dsimp only at hSw); go_simp; (try with_reducible rfl))
      try simp only [Act.put, List.getElem_toArray, List.getElem_cons_zero, List.getElem_cons_succ, List.setIfInBounds_toArray, List.set_cons_zero, List.set_cons_succ]
      refine wpAnyH_take (i := 35) (oi := _) (v := ?_) rfl (by kernel_rfl) (by kernel_rfl) (by kernel_rfl) (fun _ _ _ h => h) (Or.inl ⟨by rfl, ?_⟩) (by assumption) ?_
      rotate_left
      focus (intro wS hSw; (try dsimp only at hSw); go_simp; (try with_reducible rfl))
      try simp only [Act.put, List.getElem_toArray, List.getElem_cons_zero, List.getElem_cons_succ, List.setIfInBounds_toArray, List.set_cons_zero, List.set_cons_succ]
      refine wpAnyH_done (by kernel_rfl) ?_ _
      try clear hHeld
      go_wp2_with fail
      go_roundw
      case rel => exact ⟨j + 1, by omega, by go_num, H48.out.pick [4, 5] rfl (by decide)⟩
      case measure => first | (simp [intOf]; omega) | (simp [intOf]; done)
    · skip
      obtain ⟨m49, hm49⟩ : ∃ z, w % 70 = z := ⟨_, rfl⟩
      have HNm49 := hid hm49
      clear hm49
      obtain ⟨m49a, m49b⟩ : 0 ≤ m49 ∧ m49 < 70 := by rw [← HNm49.out]; exact ⟨Int.emod_nonneg _ (by omega), Int.emod_lt_of_pos _ (by omega)⟩
      have wm49 : IntKind.i64.wrap (1 + m49) = 1 + m49 := IntWalk.i64_in _ (by omega)
      obtain ⟨m50, hm50⟩ : ∃ z, w % 128 = z := ⟨_, rfl⟩
      have HNm50 := hid hm50
      clear hm50
      obtain ⟨m50a, m50b⟩ : 0 ≤ m50 ∧ m50 < 128 := by rw [← HNm50.out]; exact ⟨Int.emod_nonneg _ (by omega), Int.emod_lt_of_pos _ (by omega)⟩
      have wm50 : IntKind.i64.wrap (1 + m50) = 1 + m50 := IntWalk.i64_in _ (by omega)
      obtain ⟨m51, hm51⟩ : ∃ z, h % 128 = z := ⟨_, rfl⟩
      have HNm51 := hid hm51
      clear hm51
      obtain ⟨m51a, m51b⟩ : 0 ≤ m51 ∧ m51 < 128 := by rw [← HNm51.out]; exact ⟨Int.emod_nonneg _ (by omega), Int.emod_lt_of_pos _ (by omega)⟩
      have wm51 : IntKind.i64.wrap (1 + m51) = 1 + m51 := IntWalk.i64_in _ (by omega)
      obtain ⟨m52, hm52⟩ : ∃ z, mx % 4294967296 = z := ⟨_, rfl⟩
      have HNm52 := hid hm52
      clear hm52
      obtain ⟨m52a, m52b⟩ : 0 ≤ m52 ∧ m52 < 4294967296 := by rw [← HNm52.out]; exact ⟨Int.emod_nonneg _ (by omega), Int.emod_lt_of_pos _ (by omega)⟩
      have wm52 : IntKind.i64.wrap (1 + m52) = 1 + m52 := IntWalk.i64_in _ (by omega)
      go_wp2_with fail
      refine (mod_any _ _ _ (by omega) (by omega)).mono ?_
      rintro e w53 ⟨rfl, hsw⟩
      have hsw2 : u6 = w53 := by first | exact hsw | exact hsw.symm
      clear hsw
      subst hsw2
      rw [HNm49.out]
      go_wp2_with fail
      refine (mod_any _ _ _ (by omega) (by omega)).mono ?_
      rintro e w54 ⟨rfl, hsw⟩
      have hsw2 : u6 = w54 := by first | exact hsw | exact hsw.symm
      clear hsw
      subst hsw2
      rw [HNm50.out]
      obtain ⟨D55, hD55⟩ : ∃ D, u6.heap.size = D := ⟨_, rfl⟩
      go_upto_region 10 with fail
      have H56 := hid (show St B W [.cells D55 #[.int .i64 w, .int .i64 m49, .int .i64 (1 + m50)] 3, .tape K3, .cells B #[.int .i64 pw, .int .i64 ph, .int .i64 pm, .slice pa pn pc] 26] [] (u6.alloc (.cells #[.int .i64 w, .int .i64 m49, .int .i64 (1 + m50)] 3)) from (H7.out.alloc #[.int .i64 w, .int .i64 m49, .int .i64 (1 + m50)] 3 hD55))
      first | refine gen_code H56.out ?_ | refine gen_list H56.out ?_ | refine gen_calls H56.out ?_
      intro w57 hG
      clear H56
      have H56 := hid hG
      clear hG
      clear hD55
      go_wp2_with fail
      go_loopw [16] (fun i wr => ∃ j : Nat, j ≤ 3 ∧ i = .int .i64 j ∧ St B W [.cells D55 #[.int .i64 w, .int .i64 m49, .int .i64 (1 + m50)] 3, .tape K3, .cells B #[.int .i64 pw, .int .i64 ph, .int .i64 pm, .slice pa pn pc] 26] [] wr) (fun i _ => 3 - (intOf i).toNat)
      case atStart => exact ⟨0, by omega, rfl, H56.out.pick [0, 1, 2] rfl (by decide)⟩
      case round =>
        obtain ⟨j, hj, rfl, hst⟩ := hrel
        obtain ⟨u58, rfl⟩ : ∃ u58 : World, u58 = wr := ⟨_, rfl⟩
        have H59 := hid hst
        clear hst
        by_cases hjn : j < 3
        · skip
          have hj3 : (j : Int) < 3 := by omega
          have HEX := hid (show ∃ n0 : Int, ∀ w', St B W [.cells D55 #[.int .i64 w, .int .i64 m49, .int .i64 (1 + m50)] 3, .tape K3, .cells B #[.int .i64 pw, .int .i64 ph, .int .i64 pm, .slice pa pn pc] 26] [] w' → w'.cell? ⟨D55, j, none⟩ = some (.int .i64 n0) from by
            obtain rfl | rfl | rfl : j = 0 ∨ j = 1 ∨ j = 2 := by omega
            all_goals exact ⟨_, fun w' h' => h'.cell 0 rfl _ rfl⟩)
          obtain ⟨n0, hn0⟩ := HEX.out
          have HN0 := hid hn0
          clear hn0 HEX
          go_upto_region 13 with fail
          have cz := HN0.out _ (H59.out.pick [0, 1, 2] rfl (by decide))
          go_wp2_with fail
          refine (pnew_any _ _ _ _).mono ?_
          rintro e w60 ⟨v61, rfl, ho, hb⟩
          obtain ⟨l62, hl62⟩ : ∃ z, nList n0 h mx = z := ⟨_, rfl⟩
          rw [hl62] at ho
          have HNl62 := hid hl62
          clear hl62
          have H63 := hid (H59.out.grow hb ho)
          obtain ⟨v61a, v61c, rfl, _⟩ := ho.slc
          clear ho hb
          obtain ⟨t64, ht64⟩ : ∃ z, nIf n0 h mx n0 = z := ⟨_, rfl⟩
          rw [ht64]
          have HNt64 := hid ht64
          clear ht64
          obtain ⟨t65, ht65⟩ : ∃ z, nIf n0 h mx h = z := ⟨_, rfl⟩
          rw [ht65]
          have HNt65 := hid ht65
          clear ht65
          obtain ⟨t66, ht66⟩ : ∃ z, nIf n0 h mx mx = z := ⟨_, rfl⟩
          rw [ht66]
          have HNt66 := hid ht66
          clear ht66
          obtain ⟨b67, hb67⟩ : ∃ z, pOk n0 h mx = z := ⟨_, rfl⟩
          rw [hb67]
          have HNb67 := hid hb67
          clear hb67
          obtain ⟨D68, hD68⟩ : ∃ D, w60.heap.size = D := ⟨_, rfl⟩
          go_upto_region 14 with fail
          have H69 := hid (show St B W [.cells D68 #[.int .i64 t64, .int .i64 t65, .int .i64 t66, .slice v61a l62.length v61c] 26, .own (.slice v61a l62.length v61c) l62, .cells D55 #[.int .i64 w, .int .i64 m49, .int .i64 (1 + m50)] 3, .tape K3, .cells B #[.int .i64 pw, .int .i64 ph, .int .i64 pm, .slice pa pn pc] 26] [] (w60.alloc (.cells #[.int .i64 t64, .int .i64 t65, .int .i64 t66, .slice v61a l62.length v61c] 26)) from (H63.out.alloc #[.int .i64 t64, .int .i64 t65, .int .i64 t66, .slice v61a l62.length v61c] 26 hD68))
          first | refine gen_code H69.out ?_ | refine gen_list H69.out ?_ | refine gen_calls H69.out ?_
          intro w70 hG
          clear H69
          have H69 := hid hG
          clear hG
          clear hD68
          clear cz
          have cz := HN0.out _ (H69.out.pick [2, 3, 4] rfl (by decide))
          go_wp2_with fail
          refine (qnew_any _ _ _ _).mono ?_
          rintro e w71 ⟨v72, rfl, ho, hb⟩
          rw [HNl62.out] at ho
          have H73 := hid (H69.out.grow hb ho)
          obtain ⟨v72a, v72c, rfl, _⟩ := ho.slc
          clear ho hb
          rw [HNt64.out]
          rw [HNt65.out]
          rw [HNt66.out]
          rw [HNb67.out]
          obtain ⟨D74, hD74⟩ : ∃ D, w71.heap.size = D := ⟨_, rfl⟩
          go_upto_region 15 with fail
          have H75 := hid (show St B W [.cells D74 #[.int .i64 t64, .int .i64 t65, .int .i64 t66, .slice v72a l62.length v72c] 26, .own (.slice v72a l62.length v72c) l62, .cells D68 #[.int .i64 t64, .int .i64 t65, .int .i64 t66, .slice v61a l62.length v61c] 26, .own (.slice v61a l62.length v61c) l62, .cells D55 #[.int .i64 w, .int .i64 m49, .int .i64 (1 + m50)] 3, .tape K3, .cells B #[.int .i64 pw, .int .i64 ph, .int .i64 pm, .slice pa pn pc] 26] [] (w71.alloc (.cells #[.int .i64 t64, .int .i64 t65, .int .i64 t66, .slice v72a l62.length v72c] 26)) from (H73.out.alloc #[.int .i64 t64, .int .i64 t65, .int .i64 t66, .slice v72a l62.length v72c] 26 hD74))
          first | refine gen_code H75.out ?_ | refine gen_list H75.out ?_ | refine gen_calls H75.out ?_
          intro w76 hG
          clear H75
          have H75 := hid hG
          clear hG
          clear hD74
          clear cz
          obtain ⟨t77, ht77⟩ : ∃ z, nIf n0 (1 + m51) (1 + m52) n0 = z := ⟨_, rfl⟩
          have HNt77 := hid ht77
          clear ht77
          obtain ⟨t78, ht78⟩ : ∃ z, nIf n0 (1 + m51) (1 + m52) (1 + m51) = z := ⟨_, rfl⟩
          have HNt78 := hid ht78
          clear ht78
          obtain ⟨t79, ht79⟩ : ∃ z, nIf n0 (1 + m51) (1 + m52) (1 + m52) = z := ⟨_, rfl⟩
          have HNt79 := hid ht79
          clear ht79
          obtain ⟨l80, hl80⟩ : ∃ z, nList n0 (1 + m51) (1 + m52) = z := ⟨_, rfl⟩
          have HNl80 := hid hl80
          clear hl80
          obtain ⟨b81, hb81⟩ : ∃ z, pOk n0 (1 + m51) (1 + m52) = z := ⟨_, rfl⟩
          have HNb81 := hid hb81
          clear hb81
          go_cut [21, 22] (fun s1 s2 wx => ∃ (DD15 : Nat) (x15a : Option Addr) (x15c : Nat), s1 = .pointer (some ⟨DD15, 0, none⟩) ∧ s2 = .bool b81 ∧ St B W [.cells DD15 #[.int .i64 t77, .int .i64 t78, .int .i64 t79, .slice x15a l80.length x15c] 26, .own (.slice x15a l80.length x15c) l80, .cells D74 #[.int .i64 t64, .int .i64 t65, .int .i64 t66, .slice v72a l62.length v72c] 26, .own (.slice v72a l62.length v72c) l62, .cells D68 #[.int .i64 t64, .int .i64 t65, .int .i64 t66, .slice v61a l62.length v61c] 26, .own (.slice v61a l62.length v61c) l62, .cells D55 #[.int .i64 w, .int .i64 m49, .int .i64 (1 + m50)] 3, .tape K3, .cells B #[.int .i64 pw, .int .i64 ph, .int .i64 pm, .slice pa pn pc] 26] [] wx)
          case first =>
            go_upto_region 15 with fail
            have H82 := hid H75.out.drew
            refine wp_region_held_drew (S := (fun w' => w'.cell? ⟨D55, j, none⟩ = some (.int .i64 n0))) (by kernel_rfl) (HN0.out _ (H82.out.pick [4, 5, 6] rfl (by decide))) (fun hHeld => ?_)
            generalize w76.drew = k83 at *
            refine wpAnyH_take (i := 0) (oi := _) (v := ?_) rfl (by kernel_rfl) (by kernel_rfl) (by kernel_rfl) (fun _ _ _ h => h) (Or.inl ⟨by rfl, ?_⟩) (by assumption) ?_
            rotate_left
            focus (intro wS hSw; (try dsimp only at hSw); go_simp; (try with_reducible rfl))
            try simp only [Act.put, List.getElem_toArray, List.getElem_cons_zero, List.getElem_cons_succ, List.setIfInBounds_toArray, List.set_cons_zero, List.set_cons_succ]
            refine wpAnyH_take (i := 1) (oi := _) (v := ?_) rfl (by kernel_rfl) (by kernel_rfl) (by kernel_rfl) (fun _ _ _ h => h) (Or.inl ⟨by rfl, ?_⟩) (by assumption) ?_
            rotate_left
            focus (intro wS hSw; (try dsimp only at hSw); go_simp; (try with_reducible rfl))
            try simp only [Act.put, List.getElem_toArray, List.getElem_cons_zero, List.getElem_cons_succ, List.setIfInBounds_toArray, List.set_cons_zero, List.set_cons_succ]
            refine wpAnyH_take (i := 2) (oi := _) (v := ?_) rfl (by kernel_rfl) (by kernel_rfl) (by kernel_rfl) (fun _ _ _ h => h) (Or.inl ⟨by rfl, ?_⟩) (by assumption) ?_
            rotate_left
            focus (intro wS hSw; (try dsimp only at hSw); go_simp; (try with_reducible rfl))
            try simp only [Act.put, List.getElem_toArray, List.getElem_cons_zero, List.getElem_cons_succ, List.setIfInBounds_toArray, List.set_cons_zero, List.set_cons_succ]
            refine wpAnyH_take (i := 3) (oi := _) (v := ?_) rfl (by kernel_rfl) (by kernel_rfl) (by kernel_rfl) (fun _ _ _ h => h) (Or.inl ⟨by rfl, ?_⟩) (by assumption) ?_
            rotate_left
            focus (intro wS hSw; (try dsimp only at hSw); go_simp; (try with_reducible rfl))
            try simp only [Act.put, List.getElem_toArray, List.getElem_cons_zero, List.getElem_cons_succ, List.setIfInBounds_toArray, List.set_cons_zero, List.set_cons_succ]
            refine wpAnyH_take (i := 4) (oi := _) (v := ?_) rfl (by kernel_rfl) (by kernel_rfl) (by kernel_rfl) (fun _ _ _ h => h) (Or.inl ⟨by rfl, ?_⟩) (by assumption) ?_
            rotate_left
            focus (intro wS hSw; (try dsimp only at hSw); go_simp; (try with_reducible rfl))
            try simp only [Act.put, List.getElem_toArray, List.getElem_cons_zero, List.getElem_cons_succ, List.setIfInBounds_toArray, List.set_cons_zero, List.set_cons_succ]
            refine wpAnyH_take (i := 7) (oi := _) (v := ?_) rfl (by kernel_rfl) (by kernel_rfl) (by kernel_rfl) (fun _ _ _ h => h) (Or.inl ⟨by rfl, ?_⟩) (by assumption) ?_
            rotate_left
            focus (intro wS hSw; (try dsimp only at hSw); go_simp; (try with_reducible rfl))
            try simp only [Act.put, List.getElem_toArray, List.getElem_cons_zero, List.getElem_cons_succ, List.setIfInBounds_toArray, List.set_cons_zero, List.set_cons_succ]
            refine wpAnyH_ready (rs := [5, 14]) (by kernel_rfl) (by simp) (AllReadyH.cons (o := _) rfl (fun K hK => ?_) (AllReadyH.cons (o := _) rfl (fun K hK => ?_) AllReadyH.nil))
            · go_simp
              go_at_call 23
              refine (mod_any _ _ _ (by omega) (by omega)).mono ?_
              rintro e w84 ⟨rfl, hsw⟩
              have hsw2 : k83 = w84 := by first | exact hsw | exact hsw.symm
              clear hsw
              subst hsw2
              rw [HNm51.out]
              refine hK.out _ _ ?_ (fun hHeld2 => ?_)
              focus ((try dsimp only); (exact (HN0.out _ (H82.out.pick [4, 5, 6] rfl (by decide)))))
              clear hK K
              try simp only [Act.put, List.getElem_toArray, List.getElem_cons_zero, List.getElem_cons_succ, List.setIfInBounds_toArray, List.set_cons_zero, List.set_cons_succ]
              clear hHeld
              have hHeld := hHeld2
              clear hHeld2
              refine wpAnyH_take (i := 6) (oi := _) (v := ?_) rfl (by kernel_rfl) (by kernel_rfl) (by kernel_rfl) (fun _ _ _ h => h) (Or.inl ⟨by rfl, ?_⟩) (by assumption) ?_
              rotate_left
              focus (intro wS hSw; (try dsimp only at hSw); go_simp; (try with_reducible rfl))
              try simp only [Act.put, List.getElem_toArray, List.getElem_cons_zero, List.getElem_cons_succ, List.setIfInBounds_toArray, List.set_cons_zero, List.set_cons_succ]
              refine wpAnyH_ready (rs := [8, 14]) (by kernel_rfl) (by simp) (AllReadyH.cons (o := _) rfl (fun K hK => ?_) (AllReadyH.cons (o := _) rfl (fun K hK => ?_) AllReadyH.nil))
              · go_simp
                go_at_call 23
                refine (mod_any _ _ _ (by omega) (by omega)).mono ?_
                rintro e w85 ⟨rfl, hsw⟩
                have hsw2 : k83 = w85 := by first | exact hsw | exact hsw.symm
                clear hsw
                subst hsw2
                rw [HNm52.out]
                refine hK.out _ _ ?_ (fun hHeld2 => ?_)
                focus ((try dsimp only); (exact (HN0.out _ (H82.out.pick [4, 5, 6] rfl (by decide)))))
                clear hK K
                try simp only [Act.put, List.getElem_toArray, List.getElem_cons_zero, List.getElem_cons_succ, List.setIfInBounds_toArray, List.set_cons_zero, List.set_cons_succ]
                clear hHeld
                have hHeld := hHeld2
                clear hHeld2
                refine wpAnyH_take (i := 9) (oi := _) (v := ?_) rfl (by kernel_rfl) (by kernel_rfl) (by kernel_rfl) (fun _ _ _ h => h) (Or.inl ⟨by rfl, ?_⟩) (by assumption) ?_
                rotate_left
                focus (intro wS hSw; (try dsimp only at hSw); go_simp; (try with_reducible rfl))
                try simp only [Act.put, List.getElem_toArray, List.getElem_cons_zero, List.getElem_cons_succ, List.setIfInBounds_toArray, List.set_cons_zero, List.set_cons_succ]
                refine wpAnyH_ready (rs := [10, 14]) (by kernel_rfl) (by simp) (AllReadyH.cons (o := _) rfl (fun K hK => ?_) (AllReadyH.cons (o := _) rfl (fun K hK => ?_) AllReadyH.nil))
                · go_simp
                  go_at_call 55
                  refine (pnew_any _ _ _ _).mono ?_
                  rintro e w86 ⟨v87, rfl, ho, hb⟩
                  rw [HNl80.out] at ho
                  have H88 := hid (H82.out.grow hb ho)
                  obtain ⟨v87a, v87c, rfl, _⟩ := ho.slc
                  clear ho hb
                  rw [HNt77.out]
                  rw [HNt78.out]
                  rw [HNt79.out]
                  rw [HNb81.out]
                  refine hK.out _ _ ?_ (fun hHeld2 => ?_)
                  focus ((try dsimp only); (exact (HN0.out _ (H88.out.pick [5, 6, 7] rfl (by decide)))))
                  clear hK K
                  try simp only [Act.put, List.getElem_toArray, List.getElem_cons_zero, List.getElem_cons_succ, List.setIfInBounds_toArray, List.set_cons_zero, List.set_cons_succ]
                  clear hHeld
                  have hHeld := hHeld2
                  clear hHeld2
                  refine wpAnyH_take (i := 11) (oi := _) (v := ?_) rfl (by kernel_rfl) (by kernel_rfl) (by kernel_rfl) (fun _ _ _ h => h) (Or.inl ⟨by rfl, ?_⟩) (by assumption) ?_
                  rotate_left
                  focus (intro wS hSw; (try dsimp only at hSw); go_simp; (try with_reducible rfl))
                  try simp only [Act.put, List.getElem_toArray, List.getElem_cons_zero, List.getElem_cons_succ, List.setIfInBounds_toArray, List.set_cons_zero, List.set_cons_succ]
                  refine wpAnyH_take (i := 12) (oi := _) (v := ?_) rfl (by kernel_rfl) (by kernel_rfl) (by kernel_rfl) (fun _ _ _ h => h) (Or.inl ⟨by rfl, ?_⟩) (by assumption) ?_
                  rotate_left
                  focus (intro wS hSw; (try dsimp only at hSw); go_simp; (try with_reducible rfl))
                  try simp only [Act.put, List.getElem_toArray, List.getElem_cons_zero, List.getElem_cons_succ, List.setIfInBounds_toArray, List.set_cons_zero, List.set_cons_succ]
                  refine wpAnyH_take (i := 13) (oi := _) (v := ?_) rfl (by kernel_rfl) (by kernel_rfl) (by kernel_rfl) (fun _ _ _ h => h) (Or.inl ⟨by rfl, ?_⟩) (by assumption) ?_
                  rotate_left
                  focus (intro wS hSw; (try dsimp only at hSw); go_simp; (try with_reducible rfl))
                  try simp only [Act.put, List.getElem_toArray, List.getElem_cons_zero, List.getElem_cons_succ, List.setIfInBounds_toArray, List.set_cons_zero, List.set_cons_succ]
                  refine wpAnyH_ready (rs := [14]) (by kernel_rfl) (by simp) (AllReadyH.cons (o := _) rfl (fun K hK => ?_) AllReadyH.nil)
                  obtain ⟨D89, hD89⟩ : ∃ D, w86.heap.size = D := ⟨_, rfl⟩
                  have H90 := hid (show St B W [.cells D89 #[.int .i64 0, .int .i64 0, .int .i64 0, .slice none 0 0] 26, .own (.slice v87a l80.length v87c) l80, .cells D74 #[.int .i64 t64, .int .i64 t65, .int .i64 t66, .slice v72a l62.length v72c] 26, .own (.slice v72a l62.length v72c) l62, .cells D68 #[.int .i64 t64, .int .i64 t65, .int .i64 t66, .slice v61a l62.length v61c] 26, .own (.slice v61a l62.length v61c) l62, .cells D55 #[.int .i64 w, .int .i64 m49, .int .i64 (1 + m50)] 3, .tape K3, .cells B #[.int .i64 pw, .int .i64 ph, .int .i64 pm, .slice pa pn pc] 26] [] (w86.alloc (.cells #[.int .i64 0, .int .i64 0, .int .i64 0, .slice none 0 0] 26)) from (H88.out.alloc #[.int .i64 0, .int .i64 0, .int .i64 0, .slice none 0 0] 26 hD89))
                  go_simp
                  refine hK.out _ _ ?_ (fun hHeld2 => ?_)
                  focus ((try dsimp only); (exact (HN0.out _ (H90.out.pick [6, 7, 8] rfl (by decide)))))
                  clear hK K hHeld
                  try simp only [Act.put, List.getElem_toArray, List.getElem_cons_zero, List.getElem_cons_succ, List.setIfInBounds_toArray, List.set_cons_zero, List.set_cons_succ]
                  clear hD89
                  generalize (w86.alloc (.cells #[.int .i64 0, .int .i64 0, .int .i64 0, .slice none 0 0] 26)) = k91 at *
                  have hHeld := hHeld2
                  clear hHeld2
                  refine wpAnyH_ready (rs := [15]) (by kernel_rfl) (by simp) (AllReadyH.cons (o := _) rfl (fun K hK => ?_) AllReadyH.nil)
                  have z92 := H90.out.cell 0 rfl 0 rfl
                  have z93 := H90.out.free 0 rfl 0
                  have z94 := H90.out.cell 0 rfl 1 rfl
                  have z95 := H90.out.free 0 rfl 1
                  have z96 := H90.out.cell 0 rfl 2 rfl
                  have z97 := H90.out.free 0 rfl 2
                  have z98 := H90.out.cell 0 rfl 3 rfl
                  have z99 := H90.out.free 0 rfl 3
                  have H100 := hid (show St B W [.cells D89 #[.int .i64 t77, .int .i64 t78, .int .i64 t79, .slice v87a l80.length v87c] 26, .own (.slice v87a l80.length v87c) l80, .cells D74 #[.int .i64 t64, .int .i64 t65, .int .i64 t66, .slice v72a l62.length v72c] 26, .own (.slice v72a l62.length v72c) l62, .cells D68 #[.int .i64 t64, .int .i64 t65, .int .i64 t66, .slice v61a l62.length v61c] 26, .own (.slice v61a l62.length v61c) l62, .cells D55 #[.int .i64 w, .int .i64 m49, .int .i64 (1 + m50)] 3, .tape K3, .cells B #[.int .i64 pw, .int .i64 ph, .int .i64 pm, .slice pa pn pc] 26] [] ((((k91.setCell ⟨D89, 0, none⟩ (.int .i64 t77)).setCell ⟨D89, 1, none⟩ (.int .i64 t78)).setCell ⟨D89, 2, none⟩ (.int .i64 t79)).setCell ⟨D89, 3, none⟩ (.slice v87a l80.length v87c)) from (H90.out.set4 0 rfl (.int .i64 t77) (.int .i64 t78) (.int .i64 t79) (.slice v87a l80.length v87c)))
                  go_simp
                  refine hK.out _ _ ?_ (fun hHeld2 => ?_)
                  focus ((try dsimp only); (exact (HN0.out _ (H100.out.pick [6, 7, 8] rfl (by decide)))))
                  clear hK K hHeld
                  try simp only [Act.put, List.getElem_toArray, List.getElem_cons_zero, List.getElem_cons_succ, List.setIfInBounds_toArray, List.set_cons_zero, List.set_cons_succ]
                  clear z92 z93 z94 z95 z96 z97 z98 z99
                  generalize ((((k91.setCell ⟨D89, 0, none⟩ (.int .i64 t77)).setCell ⟨D89, 1, none⟩ (.int .i64 t78)).setCell ⟨D89, 2, none⟩ (.int .i64 t79)).setCell ⟨D89, 3, none⟩ (.slice v87a l80.length v87c)) = k101 at *
                  have hHeld := hHeld2
                  clear hHeld2
                  refine wpAnyH_take (i := 16) (oi := _) (v := ?_) rfl (by kernel_rfl) (by kernel_rfl) (by kernel_rfl) (fun _ _ _ h => h) (Or.inl ⟨by rfl, ?_⟩) (by assumption) ?_
                  rotate_left
                  focus (intro wS hSw; (try dsimp only at hSw); go_simp; (try with_reducible rfl))
                  try simp only [Act.put, List.getElem_toArray, List.getElem_cons_zero, List.getElem_cons_succ, List.setIfInBounds_toArray, List.set_cons_zero, List.set_cons_succ]
                  refine wpAnyH_done (by kernel_rfl) ?_ _
                  try clear hHeld
                  go_wp2_with fail
                  go_meet
                  exact ⟨_, _, _, rfl, rfl, H100.out.pick [0, 1, 2, 3, 4, 5, 6, 7, 8] rfl (by decide)⟩
                · obtain ⟨D102, hD102⟩ : ∃ D, k83.heap.size = D := ⟨_, rfl⟩
                  have H103 := hid (show St B W [.cells D102 #[.int .i64 0, .int .i64 0, .int .i64 0, .slice none 0 0] 26, .cells D74 #[.int .i64 t64, .int .i64 t65, .int .i64 t66, .slice v72a l62.length v72c] 26, .own (.slice v72a l62.length v72c) l62, .cells D68 #[.int .i64 t64, .int .i64 t65, .int .i64 t66, .slice v61a l62.length v61c] 26, .own (.slice v61a l62.length v61c) l62, .cells D55 #[.int .i64 w, .int .i64 m49, .int .i64 (1 + m50)] 3, .tape K3, .cells B #[.int .i64 pw, .int .i64 ph, .int .i64 pm, .slice pa pn pc] 26] [] (k83.alloc (.cells #[.int .i64 0, .int .i64 0, .int .i64 0, .slice none 0 0] 26)) from (H82.out.alloc #[.int .i64 0, .int .i64 0, .int .i64 0, .slice none 0 0] 26 hD102))
                  go_simp
                  refine hK.out _ _ ?_ (fun hHeld2 => ?_)
                  focus ((try dsimp only); (exact (HN0.out _ (H103.out.pick [5, 6, 7] rfl (by decide)))))
                  clear hK K hHeld
                  try simp only [Act.put, List.getElem_toArray, List.getElem_cons_zero, List.getElem_cons_succ, List.setIfInBounds_toArray, List.set_cons_zero, List.set_cons_succ]
                  clear hD102
                  generalize (k83.alloc (.cells #[.int .i64 0, .int .i64 0, .int .i64 0, .slice none 0 0] 26)) = k104 at *
                  have hHeld := hHeld2
                  clear hHeld2
                  refine wpAnyH_ready (rs := [10]) (by kernel_rfl) (by simp) (AllReadyH.cons (o := _) rfl (fun K hK => ?_) AllReadyH.nil)
                  go_simp
                  go_at_call 55
                  refine (pnew_any _ _ _ _).mono ?_
                  rintro e w105 ⟨v106, rfl, ho, hb⟩
                  rw [HNl80.out] at ho
                  have H107 := hid (H103.out.grow hb ho)
                  obtain ⟨v106a, v106c, rfl, _⟩ := ho.slc
                  clear ho hb
                  rw [HNt77.out]
                  rw [HNt78.out]
                  rw [HNt79.out]
                  rw [HNb81.out]
                  refine hK.out _ _ ?_ (fun hHeld2 => ?_)
                  focus ((try dsimp only); (exact (HN0.out _ (H107.out.pick [6, 7, 8] rfl (by decide)))))
                  clear hK K
                  try simp only [Act.put, List.getElem_toArray, List.getElem_cons_zero, List.getElem_cons_succ, List.setIfInBounds_toArray, List.set_cons_zero, List.set_cons_succ]
                  clear hHeld
                  have hHeld := hHeld2
                  clear hHeld2
                  refine wpAnyH_take (i := 11) (oi := _) (v := ?_) rfl (by kernel_rfl) (by kernel_rfl) (by kernel_rfl) (fun _ _ _ h => h) (Or.inl ⟨by rfl, ?_⟩) (by assumption) ?_
                  rotate_left
                  focus (intro wS hSw; (try dsimp only at hSw); go_simp; (try with_reducible rfl))
                  try simp only [Act.put, List.getElem_toArray, List.getElem_cons_zero, List.getElem_cons_succ, List.setIfInBounds_toArray, List.set_cons_zero, List.set_cons_succ]
                  refine wpAnyH_take (i := 12) (oi := _) (v := ?_) rfl (by kernel_rfl) (by kernel_rfl) (by kernel_rfl) (fun _ _ _ h => h) (Or.inl ⟨by rfl, ?_⟩) (by assumption) ?_
                  rotate_left
                  focus (intro wS hSw; (try dsimp only at hSw); go_simp; (try with_reducible rfl))
                  try simp only [Act.put, List.getElem_toArray, List.getElem_cons_zero, List.getElem_cons_succ, List.setIfInBounds_toArray, List.set_cons_zero, List.set_cons_succ]
                  refine wpAnyH_take (i := 13) (oi := _) (v := ?_) rfl (by kernel_rfl) (by kernel_rfl) (by kernel_rfl) (fun _ _ _ h => h) (Or.inl ⟨by rfl, ?_⟩) (by assumption) ?_
                  rotate_left
                  focus (intro wS hSw; (try dsimp only at hSw); go_simp; (try with_reducible rfl))
                  try simp only [Act.put, List.getElem_toArray, List.getElem_cons_zero, List.getElem_cons_succ, List.setIfInBounds_toArray, List.set_cons_zero, List.set_cons_succ]
                  refine wpAnyH_ready (rs := [15]) (by kernel_rfl) (by simp) (AllReadyH.cons (o := _) rfl (fun K hK => ?_) AllReadyH.nil)
                  have z108 := H107.out.cell 1 rfl 0 rfl
                  have z109 := H107.out.free 1 rfl 0
                  have z110 := H107.out.cell 1 rfl 1 rfl
                  have z111 := H107.out.free 1 rfl 1
                  have z112 := H107.out.cell 1 rfl 2 rfl
                  have z113 := H107.out.free 1 rfl 2
                  have z114 := H107.out.cell 1 rfl 3 rfl
                  have z115 := H107.out.free 1 rfl 3
                  have H116 := hid (show St B W [.own (.slice v106a l80.length v106c) l80, .cells D102 #[.int .i64 t77, .int .i64 t78, .int .i64 t79, .slice v106a l80.length v106c] 26, .cells D74 #[.int .i64 t64, .int .i64 t65, .int .i64 t66, .slice v72a l62.length v72c] 26, .own (.slice v72a l62.length v72c) l62, .cells D68 #[.int .i64 t64, .int .i64 t65, .int .i64 t66, .slice v61a l62.length v61c] 26, .own (.slice v61a l62.length v61c) l62, .cells D55 #[.int .i64 w, .int .i64 m49, .int .i64 (1 + m50)] 3, .tape K3, .cells B #[.int .i64 pw, .int .i64 ph, .int .i64 pm, .slice pa pn pc] 26] [] ((((w105.setCell ⟨D102, 0, none⟩ (.int .i64 t77)).setCell ⟨D102, 1, none⟩ (.int .i64 t78)).setCell ⟨D102, 2, none⟩ (.int .i64 t79)).setCell ⟨D102, 3, none⟩ (.slice v106a l80.length v106c)) from (H107.out.set4 1 rfl (.int .i64 t77) (.int .i64 t78) (.int .i64 t79) (.slice v106a l80.length v106c)))
                  go_simp
                  refine hK.out _ _ ?_ (fun hHeld2 => ?_)
                  focus ((try dsimp only); (exact (HN0.out _ (H116.out.pick [6, 7, 8] rfl (by decide)))))
                  clear hK K hHeld
                  try simp only [Act.put, List.getElem_toArray, List.getElem_cons_zero, List.getElem_cons_succ, List.setIfInBounds_toArray, List.set_cons_zero, List.set_cons_succ]
                  clear z108 z109 z110 z111 z112 z113 z114 z115
                  generalize ((((w105.setCell ⟨D102, 0, none⟩ (.int .i64 t77)).setCell ⟨D102, 1, none⟩ (.int .i64 t78)).setCell ⟨D102, 2, none⟩ (.int .i64 t79)).setCell ⟨D102, 3, none⟩ (.slice v106a l80.length v106c)) = k117 at *
                  have hHeld := hHeld2
                  clear hHeld2
                  refine wpAnyH_take (i := 16) (oi := _) (v := ?_) rfl (by kernel_rfl) (by kernel_rfl) (by kernel_rfl) (fun _ _ _ h => h) (Or.inl ⟨by rfl, ?_⟩) (by assumption) ?_
                  rotate_left
                  focus (intro wS hSw; (try dsimp only at hSw); go_simp; (try with_reducible rfl))
                  try simp only [Act.put, List.getElem_toArray, List.getElem_cons_zero, List.getElem_cons_succ, List.setIfInBounds_toArray, List.set_cons_zero, List.set_cons_succ]
                  refine wpAnyH_done (by kernel_rfl) ?_ _
                  try clear hHeld
                  go_wp2_with fail
                  go_meet
                  exact ⟨_, _, _, rfl, rfl, H116.out.pick [1, 0, 2, 3, 4, 5, 6, 7, 8] rfl (by decide)⟩
              · obtain ⟨D118, hD118⟩ : ∃ D, k83.heap.size = D := ⟨_, rfl⟩
                have H119 := hid (show St B W [.cells D118 #[.int .i64 0, .int .i64 0, .int .i64 0, .slice none 0 0] 26, .cells D74 #[.int .i64 t64, .int .i64 t65, .int .i64 t66, .slice v72a l62.length v72c] 26, .own (.slice v72a l62.length v72c) l62, .cells D68 #[.int .i64 t64, .int .i64 t65, .int .i64 t66, .slice v61a l62.length v61c] 26, .own (.slice v61a l62.length v61c) l62, .cells D55 #[.int .i64 w, .int .i64 m49, .int .i64 (1 + m50)] 3, .tape K3, .cells B #[.int .i64 pw, .int .i64 ph, .int .i64 pm, .slice pa pn pc] 26] [] (k83.alloc (.cells #[.int .i64 0, .int .i64 0, .int .i64 0, .slice none 0 0] 26)) from (H82.out.alloc #[.int .i64 0, .int .i64 0, .int .i64 0, .slice none 0 0] 26 hD118))
                go_simp
                refine hK.out _ _ ?_ (fun hHeld2 => ?_)
                focus ((try dsimp only); (exact (HN0.out _ (H119.out.pick [5, 6, 7] rfl (by decide)))))
                clear hK K hHeld
                try simp only [Act.put, List.getElem_toArray, List.getElem_cons_zero, List.getElem_cons_succ, List.setIfInBounds_toArray, List.set_cons_zero, List.set_cons_succ]
                clear hD118
                generalize (k83.alloc (.cells #[.int .i64 0, .int .i64 0, .int .i64 0, .slice none 0 0] 26)) = k120 at *
                have hHeld := hHeld2
                clear hHeld2
                refine wpAnyH_ready (rs := [8]) (by kernel_rfl) (by simp) (AllReadyH.cons (o := _) rfl (fun K hK => ?_) AllReadyH.nil)
                go_simp
                go_at_call 23
                refine (mod_any _ _ _ (by omega) (by omega)).mono ?_
                rintro e w121 ⟨rfl, hsw⟩
                have hsw2 : k120 = w121 := by first | exact hsw | exact hsw.symm
                clear hsw
                subst hsw2
                rw [HNm52.out]
                refine hK.out _ _ ?_ (fun hHeld2 => ?_)
                focus ((try dsimp only); (exact (HN0.out _ (H119.out.pick [5, 6, 7] rfl (by decide)))))
                clear hK K
                try simp only [Act.put, List.getElem_toArray, List.getElem_cons_zero, List.getElem_cons_succ, List.setIfInBounds_toArray, List.set_cons_zero, List.set_cons_succ]
                clear hHeld
                have hHeld := hHeld2
                clear hHeld2
                refine wpAnyH_take (i := 9) (oi := _) (v := ?_) rfl (by kernel_rfl) (by kernel_rfl) (by kernel_rfl) (fun _ _ _ h => h) (Or.inl ⟨by rfl, ?_⟩) (by assumption) ?_
                rotate_left
                focus (intro wS hSw; (try dsimp only at hSw); go_simp; (try with_reducible rfl))
                try simp only [Act.put, List.getElem_toArray, List.getElem_cons_zero, List.getElem_cons_succ, List.setIfInBounds_toArray, List.set_cons_zero, List.set_cons_succ]
                refine wpAnyH_ready (rs := [10]) (by kernel_rfl) (by simp) (AllReadyH.cons (o := _) rfl (fun K hK => ?_) AllReadyH.nil)
                go_simp
                go_at_call 55
                refine (pnew_any _ _ _ _).mono ?_
                rintro e w122 ⟨v123, rfl, ho, hb⟩
                rw [HNl80.out] at ho
                have H124 := hid (H119.out.grow hb ho)
                obtain ⟨v123a, v123c, rfl, _⟩ := ho.slc
                clear ho hb
                rw [HNt77.out]
                rw [HNt78.out]
                rw [HNt79.out]
                rw [HNb81.out]
                refine hK.out _ _ ?_ (fun hHeld2 => ?_)
                focus ((try dsimp only); (exact (HN0.out _ (H124.out.pick [6, 7, 8] rfl (by decide)))))
                clear hK K
                try simp only [Act.put, List.getElem_toArray, List.getElem_cons_zero, List.getElem_cons_succ, List.setIfInBounds_toArray, List.set_cons_zero, List.set_cons_succ]
                clear hHeld
                have hHeld := hHeld2
                clear hHeld2
                refine wpAnyH_take (i := 11) (oi := _) (v := ?_) rfl (by kernel_rfl) (by kernel_rfl) (by kernel_rfl) (fun _ _ _ h => h) (Or.inl ⟨by rfl, ?_⟩) (by assumption) ?_
                rotate_left
                focus (intro wS hSw; (try dsimp only at hSw); go_simp; (try with_reducible rfl))
                try simp only [Act.put, List.getElem_toArray, List.getElem_cons_zero, List.getElem_cons_succ, List.setIfInBounds_toArray, List.set_cons_zero, List.set_cons_succ]
                refine wpAnyH_take (i := 12) (oi := _) (v := ?_) rfl (by kernel_rfl) (by kernel_rfl) (by kernel_rfl) (fun _ _ _ h => h) (Or.inl ⟨by rfl, ?_⟩) (by assumption) ?_
                rotate_left
                focus (intro wS hSw; (try dsimp only at hSw); go_simp; (try with_reducible rfl))
                try simp only [Act.put, List.getElem_toArray, List.getElem_cons_zero, List.getElem_cons_succ, List.setIfInBounds_toArray, List.set_cons_zero, List.set_cons_succ]
                refine wpAnyH_take (i := 13) (oi := _) (v := ?_) rfl (by kernel_rfl) (by kernel_rfl) (by kernel_rfl) (fun _ _ _ h => h) (Or.inl ⟨by rfl, ?_⟩) (by assumption) ?_
                rotate_left
                focus (intro wS hSw; (try dsimp only at hSw); go_simp; (try with_reducible rfl))
                try simp only [Act.put, List.getElem_toArray, List.getElem_cons_zero, List.getElem_cons_succ, List.setIfInBounds_toArray, List.set_cons_zero, List.set_cons_succ]
                refine wpAnyH_ready (rs := [15]) (by kernel_rfl) (by simp) (AllReadyH.cons (o := _) rfl (fun K hK => ?_) AllReadyH.nil)
                have z125 := H124.out.cell 1 rfl 0 rfl
                have z126 := H124.out.free 1 rfl 0
                have z127 := H124.out.cell 1 rfl 1 rfl
                have z128 := H124.out.free 1 rfl 1
                have z129 := H124.out.cell 1 rfl 2 rfl
                have z130 := H124.out.free 1 rfl 2
                have z131 := H124.out.cell 1 rfl 3 rfl
                have z132 := H124.out.free 1 rfl 3
                have H133 := hid (show St B W [.own (.slice v123a l80.length v123c) l80, .cells D118 #[.int .i64 t77, .int .i64 t78, .int .i64 t79, .slice v123a l80.length v123c] 26, .cells D74 #[.int .i64 t64, .int .i64 t65, .int .i64 t66, .slice v72a l62.length v72c] 26, .own (.slice v72a l62.length v72c) l62, .cells D68 #[.int .i64 t64, .int .i64 t65, .int .i64 t66, .slice v61a l62.length v61c] 26, .own (.slice v61a l62.length v61c) l62, .cells D55 #[.int .i64 w, .int .i64 m49, .int .i64 (1 + m50)] 3, .tape K3, .cells B #[.int .i64 pw, .int .i64 ph, .int .i64 pm, .slice pa pn pc] 26] [] ((((w122.setCell ⟨D118, 0, none⟩ (.int .i64 t77)).setCell ⟨D118, 1, none⟩ (.int .i64 t78)).setCell ⟨D118, 2, none⟩ (.int .i64 t79)).setCell ⟨D118, 3, none⟩ (.slice v123a l80.length v123c)) from (H124.out.set4 1 rfl (.int .i64 t77) (.int .i64 t78) (.int .i64 t79) (.slice v123a l80.length v123c)))
                go_simp
                refine hK.out _ _ ?_ (fun hHeld2 => ?_)
                focus ((try dsimp only); (exact (HN0.out _ (H133.out.pick [6, 7, 8] rfl (by decide)))))
                clear hK K hHeld
                try simp only [Act.put, List.getElem_toArray, List.getElem_cons_zero, List.getElem_cons_succ, List.setIfInBounds_toArray, List.set_cons_zero, List.set_cons_succ]
                clear z125 z126 z127 z128 z129 z130 z131 z132
                generalize ((((w122.setCell ⟨D118, 0, none⟩ (.int .i64 t77)).setCell ⟨D118, 1, none⟩ (.int .i64 t78)).setCell ⟨D118, 2, none⟩ (.int .i64 t79)).setCell ⟨D118, 3, none⟩ (.slice v123a l80.length v123c)) = k134 at *
                have hHeld := hHeld2
                clear hHeld2
                refine wpAnyH_take (i := 16) (oi := _) (v := ?_) rfl (by kernel_rfl) (by kernel_rfl) (by kernel_rfl) (fun _ _ _ h => h) (Or.inl ⟨by rfl, ?_⟩) (by assumption) ?_
                rotate_left
                focus (intro wS hSw; (try dsimp only at hSw); go_simp; (try with_reducible rfl))
                try simp only [Act.put, List.getElem_toArray, List.getElem_cons_zero, List.getElem_cons_succ, List.setIfInBounds_toArray, List.set_cons_zero, List.set_cons_succ]
                refine wpAnyH_done (by kernel_rfl) ?_ _
                try clear hHeld
                go_wp2_with fail
                go_meet
                exact ⟨_, _, _, rfl, rfl, H133.out.pick [1, 0, 2, 3, 4, 5, 6, 7, 8] rfl (by decide)⟩
            · obtain ⟨D135, hD135⟩ : ∃ D, k83.heap.size = D := ⟨_, rfl⟩
              have H136 := hid (show St B W [.cells D135 #[.int .i64 0, .int .i64 0, .int .i64 0, .slice none 0 0] 26, .cells D74 #[.int .i64 t64, .int .i64 t65, .int .i64 t66, .slice v72a l62.length v72c] 26, .own (.slice v72a l62.length v72c) l62, .cells D68 #[.int .i64 t64, .int .i64 t65, .int .i64 t66, .slice v61a l62.length v61c] 26, .own (.slice v61a l62.length v61c) l62, .cells D55 #[.int .i64 w, .int .i64 m49, .int .i64 (1 + m50)] 3, .tape K3, .cells B #[.int .i64 pw, .int .i64 ph, .int .i64 pm, .slice pa pn pc] 26] [] (k83.alloc (.cells #[.int .i64 0, .int .i64 0, .int .i64 0, .slice none 0 0] 26)) from (H82.out.alloc #[.int .i64 0, .int .i64 0, .int .i64 0, .slice none 0 0] 26 hD135))
              go_simp
              refine hK.out _ _ ?_ (fun hHeld2 => ?_)
              focus ((try dsimp only); (exact (HN0.out _ (H136.out.pick [5, 6, 7] rfl (by decide)))))
              clear hK K hHeld
              try simp only [Act.put, List.getElem_toArray, List.getElem_cons_zero, List.getElem_cons_succ, List.setIfInBounds_toArray, List.set_cons_zero, List.set_cons_succ]
              clear hD135
              generalize (k83.alloc (.cells #[.int .i64 0, .int .i64 0, .int .i64 0, .slice none 0 0] 26)) = k137 at *
              have hHeld := hHeld2
              clear hHeld2
              refine wpAnyH_ready (rs := [5]) (by kernel_rfl) (by simp) (AllReadyH.cons (o := _) rfl (fun K hK => ?_) AllReadyH.nil)
              go_simp
              go_at_call 23
              refine (mod_any _ _ _ (by omega) (by omega)).mono ?_
              rintro e w138 ⟨rfl, hsw⟩
              have hsw2 : k137 = w138 := by first | exact hsw | exact hsw.symm
              clear hsw
              subst hsw2
              rw [HNm51.out]
              refine hK.out _ _ ?_ (fun hHeld2 => ?_)
              focus ((try dsimp only); (exact (HN0.out _ (H136.out.pick [5, 6, 7] rfl (by decide)))))
              clear hK K
              try simp only [Act.put, List.getElem_toArray, List.getElem_cons_zero, List.getElem_cons_succ, List.setIfInBounds_toArray, List.set_cons_zero, List.set_cons_succ]
              clear hHeld
              have hHeld := hHeld2
              clear hHeld2
              refine wpAnyH_take (i := 6) (oi := _) (v := ?_) rfl (by kernel_rfl) (by kernel_rfl) (by kernel_rfl) (fun _ _ _ h => h) (Or.inl ⟨by rfl, ?_⟩) (by assumption) ?_
              rotate_left
              focus (intro wS hSw; (try dsimp only at hSw); go_simp; (try with_reducible rfl))
              try simp only [Act.put, List.getElem_toArray, List.getElem_cons_zero, List.getElem_cons_succ, List.setIfInBounds_toArray, List.set_cons_zero, List.set_cons_succ]
              refine wpAnyH_ready (rs := [8]) (by kernel_rfl) (by simp) (AllReadyH.cons (o := _) rfl (fun K hK => ?_) AllReadyH.nil)
              go_simp
              go_at_call 23
              refine (mod_any _ _ _ (by omega) (by omega)).mono ?_
              rintro e w139 ⟨rfl, hsw⟩
              have hsw2 : k137 = w139 := by first | exact hsw | exact hsw.symm
              clear hsw
              subst hsw2
              rw [HNm52.out]
              refine hK.out _ _ ?_ (fun hHeld2 => ?_)
              focus ((try dsimp only); (exact (HN0.out _ (H136.out.pick [5, 6, 7] rfl (by decide)))))
              clear hK K
              try simp only [Act.put, List.getElem_toArray, List.getElem_cons_zero, List.getElem_cons_succ, List.setIfInBounds_toArray, List.set_cons_zero, List.set_cons_succ]
              clear hHeld
              have hHeld := hHeld2
              clear hHeld2
              refine wpAnyH_take (i := 9) (oi := _) (v := ?_) rfl (by kernel_rfl) (by kernel_rfl) (by kernel_rfl) (fun _ _ _ h => h) (Or.inl ⟨by rfl, ?_⟩) (by assumption) ?_
              rotate_left
              focus (intro wS hSw; (try dsimp only at hSw); go_simp; (try with_reducible rfl))
              try simp only [Act.put, List.getElem_toArray, List.getElem_cons_zero, List.getElem_cons_succ, List.setIfInBounds_toArray, List.set_cons_zero, List.set_cons_succ]
              refine wpAnyH_ready (rs := [10]) (by kernel_rfl) (by simp) (AllReadyH.cons (o := _) rfl (fun K hK => ?_) AllReadyH.nil)
              go_simp
              go_at_call 55
              refine (pnew_any _ _ _ _).mono ?_
              rintro e w140 ⟨v141, rfl, ho, hb⟩
              rw [HNl80.out] at ho
              have H142 := hid (H136.out.grow hb ho)
              obtain ⟨v141a, v141c, rfl, _⟩ := ho.slc
              clear ho hb
              rw [HNt77.out]
              rw [HNt78.out]
              rw [HNt79.out]
              rw [HNb81.out]
              refine hK.out _ _ ?_ (fun hHeld2 => ?_)
              focus ((try dsimp only); (exact (HN0.out _ (H142.out.pick [6, 7, 8] rfl (by decide)))))
              clear hK K
              try simp only [Act.put, List.getElem_toArray, List.getElem_cons_zero, List.getElem_cons_succ, List.setIfInBounds_toArray, List.set_cons_zero, List.set_cons_succ]
              clear hHeld
              have hHeld := hHeld2
              clear hHeld2
              refine wpAnyH_take (i := 11) (oi := _) (v := ?_) rfl (by kernel_rfl) (by kernel_rfl) (by kernel_rfl) (fun _ _ _ h => h) (Or.inl ⟨by rfl, ?_⟩) (by assumption) ?_
              rotate_left
              focus (intro wS hSw; (try dsimp only at hSw); go_simp; (try with_reducible rfl))
              try simp only [Act.put, List.getElem_toArray, List.getElem_cons_zero, List.getElem_cons_succ, List.setIfInBounds_toArray, List.set_cons_zero, List.set_cons_succ]
              refine wpAnyH_take (i := 12) (oi := _) (v := ?_) rfl (by kernel_rfl) (by kernel_rfl) (by kernel_rfl) (fun _ _ _ h => h) (Or.inl ⟨by rfl, ?_⟩) (by assumption) ?_
              rotate_left
              focus (intro wS hSw; (try dsimp only at hSw); go_simp; (try with_reducible rfl))
              try simp only [Act.put, List.getElem_toArray, List.getElem_cons_zero, List.getElem_cons_succ, List.setIfInBounds_toArray, List.set_cons_zero, List.set_cons_succ]
              refine wpAnyH_take (i := 13) (oi := _) (v := ?_) rfl (by kernel_rfl) (by kernel_rfl) (by kernel_rfl) (fun _ _ _ h => h) (Or.inl ⟨by rfl, ?_⟩) (by assumption) ?_
              rotate_left
              focus (intro wS hSw; (try dsimp only at hSw); go_simp; (try with_reducible rfl))
              try simp only [Act.put, List.getElem_toArray, List.getElem_cons_zero, List.getElem_cons_succ, List.setIfInBounds_toArray, List.set_cons_zero, List.set_cons_succ]
              refine wpAnyH_ready (rs := [15]) (by kernel_rfl) (by simp) (AllReadyH.cons (o := _) rfl (fun K hK => ?_) AllReadyH.nil)
              have z143 := H142.out.cell 1 rfl 0 rfl
              have z144 := H142.out.free 1 rfl 0
              have z145 := H142.out.cell 1 rfl 1 rfl
              have z146 := H142.out.free 1 rfl 1
              have z147 := H142.out.cell 1 rfl 2 rfl
              have z148 := H142.out.free 1 rfl 2
              have z149 := H142.out.cell 1 rfl 3 rfl
              have z150 := H142.out.free 1 rfl 3
              have H151 := hid (show St B W [.own (.slice v141a l80.length v141c) l80, .cells D135 #[.int .i64 t77, .int .i64 t78, .int .i64 t79, .slice v141a l80.length v141c] 26, .cells D74 #[.int .i64 t64, .int .i64 t65, .int .i64 t66, .slice v72a l62.length v72c] 26, .own (.slice v72a l62.length v72c) l62, .cells D68 #[.int .i64 t64, .int .i64 t65, .int .i64 t66, .slice v61a l62.length v61c] 26, .own (.slice v61a l62.length v61c) l62, .cells D55 #[.int .i64 w, .int .i64 m49, .int .i64 (1 + m50)] 3, .tape K3, .cells B #[.int .i64 pw, .int .i64 ph, .int .i64 pm, .slice pa pn pc] 26] [] ((((w140.setCell ⟨D135, 0, none⟩ (.int .i64 t77)).setCell ⟨D135, 1, none⟩ (.int .i64 t78)).setCell ⟨D135, 2, none⟩ (.int .i64 t79)).setCell ⟨D135, 3, none⟩ (.slice v141a l80.length v141c)) from (H142.out.set4 1 rfl (.int .i64 t77) (.int .i64 t78) (.int .i64 t79) (.slice v141a l80.length v141c)))
              go_simp
              refine hK.out _ _ ?_ (fun hHeld2 => ?_)
              focus ((try dsimp only); (exact (HN0.out _ (H151.out.pick [6, 7, 8] rfl (by decide)))))
              clear hK K hHeld
              try simp only [Act.put, List.getElem_toArray, List.getElem_cons_zero, List.getElem_cons_succ, List.setIfInBounds_toArray, List.set_cons_zero, List.set_cons_succ]
              clear z143 z144 z145 z146 z147 z148 z149 z150
              generalize ((((w140.setCell ⟨D135, 0, none⟩ (.int .i64 t77)).setCell ⟨D135, 1, none⟩ (.int .i64 t78)).setCell ⟨D135, 2, none⟩ (.int .i64 t79)).setCell ⟨D135, 3, none⟩ (.slice v141a l80.length v141c)) = k152 at *
              have hHeld := hHeld2
              clear hHeld2
              refine wpAnyH_take (i := 16) (oi := _) (v := ?_) rfl (by kernel_rfl) (by kernel_rfl) (by kernel_rfl) (fun _ _ _ h => h) (Or.inl ⟨by rfl, ?_⟩) (by assumption) ?_
              rotate_left
              focus (intro wS hSw; (try dsimp only at hSw); go_simp; (try with_reducible rfl))
              try simp only [Act.put, List.getElem_toArray, List.getElem_cons_zero, List.getElem_cons_succ, List.setIfInBounds_toArray, List.set_cons_zero, List.set_cons_succ]
              refine wpAnyH_done (by kernel_rfl) ?_ _
              try clear hHeld
              go_wp2_with fail
              go_meet
              exact ⟨_, _, _, rfl, rfl, H151.out.pick [1, 0, 2, 3, 4, 5, 6, 7, 8] rfl (by decide)⟩
          case rest =>
            obtain ⟨DD15, x15a, x15c, rfl, rfl, hst⟩ := hcut
            obtain ⟨u153, rfl⟩ : ∃ u153 : World, u153 = wc := ⟨_, rfl⟩
            have H154 := hid hst
            clear hst
            go_upto_region 16 with fail
            go_cut [23, 24] (fun s1 s2 wx => ∃ (DD16 : Nat) (x16a : Option Addr) (x16c : Nat), s1 = .pointer (some ⟨DD16, 0, none⟩) ∧ s2 = .bool b81 ∧ St B W [.cells DD16 #[.int .i64 t77, .int .i64 t78, .int .i64 t79, .slice x16a l80.length x16c] 26, .own (.slice x16a l80.length x16c) l80, .cells DD15 #[.int .i64 t77, .int .i64 t78, .int .i64 t79, .slice x15a l80.length x15c] 26, .own (.slice x15a l80.length x15c) l80, .cells D74 #[.int .i64 t64, .int .i64 t65, .int .i64 t66, .slice v72a l62.length v72c] 26, .own (.slice v72a l62.length v72c) l62, .cells D68 #[.int .i64 t64, .int .i64 t65, .int .i64 t66, .slice v61a l62.length v61c] 26, .own (.slice v61a l62.length v61c) l62, .cells D55 #[.int .i64 w, .int .i64 m49, .int .i64 (1 + m50)] 3, .tape K3, .cells B #[.int .i64 pw, .int .i64 ph, .int .i64 pm, .slice pa pn pc] 26] [] wx)
            case first =>
              go_upto_region 16 with fail
              have H155 := hid H154.out.drew
              refine wp_region_held_drew (S := (fun w' => w'.cell? ⟨D55, j, none⟩ = some (.int .i64 n0))) (by kernel_rfl) (HN0.out _ (H155.out.pick [6, 7, 8] rfl (by decide))) (fun hHeld => ?_)
              generalize u153.drew = k156 at *
              refine wpAnyH_take (i := 0) (oi := _) (v := ?_) rfl (by kernel_rfl) (by kernel_rfl) (by kernel_rfl) (fun _ _ _ h => h) (Or.inl ⟨by rfl, ?_⟩) (by assumption) ?_
              rotate_left
              focus (intro wS hSw; (try dsimp only at hSw); go_simp; (try with_reducible rfl))
              try simp only [Act.put, List.getElem_toArray, List.getElem_cons_zero, List.getElem_cons_succ, List.setIfInBounds_toArray, List.set_cons_zero, List.set_cons_succ]
              refine wpAnyH_take (i := 1) (oi := _) (v := ?_) rfl (by kernel_rfl) (by kernel_rfl) (by kernel_rfl) (fun _ _ _ h => h) (Or.inl ⟨by rfl, ?_⟩) (by assumption) ?_
              rotate_left
              focus (intro wS hSw; (try dsimp only at hSw); go_simp; (try with_reducible rfl))
              try simp only [Act.put, List.getElem_toArray, List.getElem_cons_zero, List.getElem_cons_succ, List.setIfInBounds_toArray, List.set_cons_zero, List.set_cons_succ]
              refine wpAnyH_take (i := 2) (oi := _) (v := ?_) rfl (by kernel_rfl) (by kernel_rfl) (by kernel_rfl) (fun _ _ _ h => h) (Or.inl ⟨by rfl, ?_⟩) (by assumption) ?_
              rotate_left
              focus (intro wS hSw; (try dsimp only at hSw); go_simp; (try with_reducible rfl))
              try simp only [Act.put, List.getElem_toArray, List.getElem_cons_zero, List.getElem_cons_succ, List.setIfInBounds_toArray, List.set_cons_zero, List.set_cons_succ]
              refine wpAnyH_take (i := 3) (oi := _) (v := ?_) rfl (by kernel_rfl) (by kernel_rfl) (by kernel_rfl) (fun _ _ _ h => h) (Or.inl ⟨by rfl, ?_⟩) (by assumption) ?_
              rotate_left
              focus (intro wS hSw; (try dsimp only at hSw); go_simp; (try with_reducible rfl))
              try simp only [Act.put, List.getElem_toArray, List.getElem_cons_zero, List.getElem_cons_succ, List.setIfInBounds_toArray, List.set_cons_zero, List.set_cons_succ]
              refine wpAnyH_take (i := 4) (oi := _) (v := ?_) rfl (by kernel_rfl) (by kernel_rfl) (by kernel_rfl) (fun _ _ _ h => h) (Or.inl ⟨by rfl, ?_⟩) (by assumption) ?_
              rotate_left
              focus (intro wS hSw; (try dsimp only at hSw); go_simp; (try with_reducible rfl))
              try simp only [Act.put, List.getElem_toArray, List.getElem_cons_zero, List.getElem_cons_succ, List.setIfInBounds_toArray, List.set_cons_zero, List.set_cons_succ]
              refine wpAnyH_take (i := 7) (oi := _) (v := ?_) rfl (by kernel_rfl) (by kernel_rfl) (by kernel_rfl) (fun _ _ _ h => h) (Or.inl ⟨by rfl, ?_⟩) (by assumption) ?_
              rotate_left
              focus (intro wS hSw; (try dsimp only at hSw); go_simp; (try with_reducible rfl))
              try simp only [Act.put, List.getElem_toArray, List.getElem_cons_zero, List.getElem_cons_succ, List.setIfInBounds_toArray, List.set_cons_zero, List.set_cons_succ]
              refine wpAnyH_ready (rs := [5, 14]) (by kernel_rfl) (by simp) (AllReadyH.cons (o := _) rfl (fun K hK => ?_) (AllReadyH.cons (o := _) rfl (fun K hK => ?_) AllReadyH.nil))
              · go_simp
                go_at_call 23
                refine (mod_any _ _ _ (by omega) (by omega)).mono ?_
                rintro e w157 ⟨rfl, hsw⟩
                have hsw2 : k156 = w157 := by first | exact hsw | exact hsw.symm
                clear hsw
                subst hsw2
                rw [HNm51.out]
                refine hK.out _ _ ?_ (fun hHeld2 => ?_)
                focus ((try dsimp only); (exact (HN0.out _ (H155.out.pick [6, 7, 8] rfl (by decide)))))
                clear hK K
                try simp only [Act.put, List.getElem_toArray, List.getElem_cons_zero, List.getElem_cons_succ, List.setIfInBounds_toArray, List.set_cons_zero, List.set_cons_succ]
                clear hHeld
                have hHeld := hHeld2
                clear hHeld2
                refine wpAnyH_take (i := 6) (oi := _) (v := ?_) rfl (by kernel_rfl) (by kernel_rfl) (by kernel_rfl) (fun _ _ _ h => h) (Or.inl ⟨by rfl, ?_⟩) (by assumption) ?_
                rotate_left
                focus (intro wS hSw; (try dsimp only at hSw); go_simp; (try with_reducible rfl))
                try simp only [Act.put, List.getElem_toArray, List.getElem_cons_zero, List.getElem_cons_succ, List.setIfInBounds_toArray, List.set_cons_zero, List.set_cons_succ]
                refine wpAnyH_ready (rs := [8, 14]) (by kernel_rfl) (by simp) (AllReadyH.cons (o := _) rfl (fun K hK => ?_) (AllReadyH.cons (o := _) rfl (fun K hK => ?_) AllReadyH.nil))
                · go_simp
                  go_at_call 23
                  refine (mod_any _ _ _ (by omega) (by omega)).mono ?_
                  rintro e w158 ⟨rfl, hsw⟩
                  have hsw2 : k156 = w158 := by first | exact hsw | exact hsw.symm
                  clear hsw
                  subst hsw2
                  rw [HNm52.out]
                  refine hK.out _ _ ?_ (fun hHeld2 => ?_)
                  focus ((try dsimp only); (exact (HN0.out _ (H155.out.pick [6, 7, 8] rfl (by decide)))))
                  clear hK K
                  try simp only [Act.put, List.getElem_toArray, List.getElem_cons_zero, List.getElem_cons_succ, List.setIfInBounds_toArray, List.set_cons_zero, List.set_cons_succ]
                  clear hHeld
                  have hHeld := hHeld2
                  clear hHeld2
                  refine wpAnyH_take (i := 9) (oi := _) (v := ?_) rfl (by kernel_rfl) (by kernel_rfl) (by kernel_rfl) (fun _ _ _ h => h) (Or.inl ⟨by rfl, ?_⟩) (by assumption) ?_
                  rotate_left
                  focus (intro wS hSw; (try dsimp only at hSw); go_simp; (try with_reducible rfl))
                  try simp only [Act.put, List.getElem_toArray, List.getElem_cons_zero, List.getElem_cons_succ, List.setIfInBounds_toArray, List.set_cons_zero, List.set_cons_succ]
                  refine wpAnyH_ready (rs := [10, 14]) (by kernel_rfl) (by simp) (AllReadyH.cons (o := _) rfl (fun K hK => ?_) (AllReadyH.cons (o := _) rfl (fun K hK => ?_) AllReadyH.nil))
                  · go_simp
                    go_at_call 56
                    refine (qnew_any _ _ _ _).mono ?_
                    rintro e w159 ⟨v160, rfl, ho, hb⟩
                    rw [HNl80.out] at ho
                    have H161 := hid (H155.out.grow hb ho)
                    obtain ⟨v160a, v160c, rfl, _⟩ := ho.slc
                    clear ho hb
                    rw [HNt77.out]
                    rw [HNt78.out]
                    rw [HNt79.out]
                    rw [HNb81.out]
                    refine hK.out _ _ ?_ (fun hHeld2 => ?_)
                    focus ((try dsimp only); (exact (HN0.out _ (H161.out.pick [7, 8, 9] rfl (by decide)))))
                    clear hK K
                    try simp only [Act.put, List.getElem_toArray, List.getElem_cons_zero, List.getElem_cons_succ, List.setIfInBounds_toArray, List.set_cons_zero, List.set_cons_succ]
                    clear hHeld
                    have hHeld := hHeld2
                    clear hHeld2
                    refine wpAnyH_take (i := 11) (oi := _) (v := ?_) rfl (by kernel_rfl) (by kernel_rfl) (by kernel_rfl) (fun _ _ _ h => h) (Or.inl ⟨by rfl, ?_⟩) (by assumption) ?_
                    rotate_left
                    focus (intro wS hSw; (try dsimp only at hSw); go_simp; (try with_reducible rfl))
                    try simp only [Act.put, List.getElem_toArray, List.getElem_cons_zero, List.getElem_cons_succ, List.setIfInBounds_toArray, List.set_cons_zero, List.set_cons_succ]
                    refine wpAnyH_take (i := 12) (oi := _) (v := ?_) rfl (by kernel_rfl) (by kernel_rfl) (by kernel_rfl) (fun _ _ _ h => h) (Or.inl ⟨by rfl, ?_⟩) (by assumption) ?_
                    rotate_left
                    focus (intro wS hSw; (try dsimp only at hSw); go_simp; (try with_reducible rfl))
                    try simp only [Act.put, List.getElem_toArray, List.getElem_cons_zero, List.getElem_cons_succ, List.setIfInBounds_toArray, List.set_cons_zero, List.set_cons_succ]
                    refine wpAnyH_take (i := 13) (oi := _) (v := ?_) rfl (by kernel_rfl) (by kernel_rfl) (by kernel_rfl) (fun _ _ _ h => h) (Or.inl ⟨by rfl, ?_⟩) (by assumption) ?_
                    rotate_left
                    focus (intro wS hSw; (try dsimp only at hSw); go_simp; (try with_reducible rfl))
                    try simp only [Act.put, List.getElem_toArray, List.getElem_cons_zero, List.getElem_cons_succ, List.setIfInBounds_toArray, List.set_cons_zero, List.set_cons_succ]
                    refine wpAnyH_ready (rs := [14]) (by kernel_rfl) (by simp) (AllReadyH.cons (o := _) rfl (fun K hK => ?_) AllReadyH.nil)
                    obtain ⟨D162, hD162⟩ : ∃ D, w159.heap.size = D := ⟨_, rfl⟩
                    have H163 := hid (show St B W [.cells D162 #[.int .i64 0, .int .i64 0, .int .i64 0, .slice none 0 0] 26, .own (.slice v160a l80.length v160c) l80, .cells DD15 #[.int .i64 t77, .int .i64 t78, .int .i64 t79, .slice x15a l80.length x15c] 26, .own (.slice x15a l80.length x15c) l80, .cells D74 #[.int .i64 t64, .int .i64 t65, .int .i64 t66, .slice v72a l62.length v72c] 26, .own (.slice v72a l62.length v72c) l62, .cells D68 #[.int .i64 t64, .int .i64 t65, .int .i64 t66, .slice v61a l62.length v61c] 26, .own (.slice v61a l62.length v61c) l62, .cells D55 #[.int .i64 w, .int .i64 m49, .int .i64 (1 + m50)] 3, .tape K3, .cells B #[.int .i64 pw, .int .i64 ph, .int .i64 pm, .slice pa pn pc] 26] [] (w159.alloc (.cells #[.int .i64 0, .int .i64 0, .int .i64 0, .slice none 0 0] 26)) from (H161.out.alloc #[.int .i64 0, .int .i64 0, .int .i64 0, .slice none 0 0] 26 hD162))
                    go_simp
                    refine hK.out _ _ ?_ (fun hHeld2 => ?_)
                    focus ((try dsimp only); (exact (HN0.out _ (H163.out.pick [8, 9, 10] rfl (by decide)))))
                    clear hK K hHeld
                    try simp only [Act.put, List.getElem_toArray, List.getElem_cons_zero, List.getElem_cons_succ, List.setIfInBounds_toArray, List.set_cons_zero, List.set_cons_succ]
                    clear hD162
                    generalize (w159.alloc (.cells #[.int .i64 0, .int .i64 0, .int .i64 0, .slice none 0 0] 26)) = k164 at *
                    have hHeld := hHeld2
                    clear hHeld2
                    refine wpAnyH_ready (rs := [15]) (by kernel_rfl) (by simp) (AllReadyH.cons (o := _) rfl (fun K hK => ?_) AllReadyH.nil)
                    have z165 := H163.out.cell 0 rfl 0 rfl
                    have z166 := H163.out.free 0 rfl 0
                    have z167 := H163.out.cell 0 rfl 1 rfl
                    have z168 := H163.out.free 0 rfl 1
                    have z169 := H163.out.cell 0 rfl 2 rfl
                    have z170 := H163.out.free 0 rfl 2
                    have z171 := H163.out.cell 0 rfl 3 rfl
                    have z172 := H163.out.free 0 rfl 3
                    have H173 := hid (show St B W [.cells D162 #[.int .i64 t77, .int .i64 t78, .int .i64 t79, .slice v160a l80.length v160c] 26, .own (.slice v160a l80.length v160c) l80, .cells DD15 #[.int .i64 t77, .int .i64 t78, .int .i64 t79, .slice x15a l80.length x15c] 26, .own (.slice x15a l80.length x15c) l80, .cells D74 #[.int .i64 t64, .int .i64 t65, .int .i64 t66, .slice v72a l62.length v72c] 26, .own (.slice v72a l62.length v72c) l62, .cells D68 #[.int .i64 t64, .int .i64 t65, .int .i64 t66, .slice v61a l62.length v61c] 26, .own (.slice v61a l62.length v61c) l62, .cells D55 #[.int .i64 w, .int .i64 m49, .int .i64 (1 + m50)] 3, .tape K3, .cells B #[.int .i64 pw, .int .i64 ph, .int .i64 pm, .slice pa pn pc] 26] [] ((((k164.setCell ⟨D162, 0, none⟩ (.int .i64 t77)).setCell ⟨D162, 1, none⟩ (.int .i64 t78)).setCell ⟨D162, 2, none⟩ (.int .i64 t79)).setCell ⟨D162, 3, none⟩ (.slice v160a l80.length v160c)) from (H163.out.set4 0 rfl (.int .i64 t77) (.int .i64 t78) (.int .i64 t79) (.slice v160a l80.length v160c)))
                    go_simp
                    refine hK.out _ _ ?_ (fun hHeld2 => ?_)
                    focus ((try dsimp only); (exact (HN0.out _ (H173.out.pick [8, 9, 10] rfl (by decide)))))
                    clear hK K hHeld
                    try simp only [Act.put, List.getElem_toArray, List.getElem_cons_zero, List.getElem_cons_succ, List.setIfInBounds_toArray, List.set_cons_zero, List.set_cons_succ]
                    clear z165 z166 z167 z168 z169 z170 z171 z172
                    generalize ((((k164.setCell ⟨D162, 0, none⟩ (.int .i64 t77)).setCell ⟨D162, 1, none⟩ (.int .i64 t78)).setCell ⟨D162, 2, none⟩ (.int .i64 t79)).setCell ⟨D162, 3, none⟩ (.slice v160a l80.length v160c)) = k174 at *
                    have hHeld := hHeld2
                    clear hHeld2
                    refine wpAnyH_take (i := 16) (oi := _) (v := ?_) rfl (by kernel_rfl) (by kernel_rfl) (by kernel_rfl) (fun _ _ _ h => h) (Or.inl ⟨by rfl, ?_⟩) (by assumption) ?_
                    rotate_left
                    focus (intro wS hSw; (try dsimp only at hSw); go_simp; (try with_reducible rfl))
                    try simp only [Act.put, List.getElem_toArray, List.getElem_cons_zero, List.getElem_cons_succ, List.setIfInBounds_toArray, List.set_cons_zero, List.set_cons_succ]
                    refine wpAnyH_done (by kernel_rfl) ?_ _
                    try clear hHeld
                    go_wp2_with fail
                    go_meet
                    exact ⟨_, _, _, rfl, rfl, H173.out.pick [0, 1, 2, 3, 4, 5, 6, 7, 8, 9, 10] rfl (by decide)⟩
                  · obtain ⟨D175, hD175⟩ : ∃ D, k156.heap.size = D := ⟨_, rfl⟩
                    have H176 := hid (show St B W [.cells D175 #[.int .i64 0, .int .i64 0, .int .i64 0, .slice none 0 0] 26, .cells DD15 #[.int .i64 t77, .int .i64 t78, .int .i64 t79, .slice x15a l80.length x15c] 26, .own (.slice x15a l80.length x15c) l80, .cells D74 #[.int .i64 t64, .int .i64 t65, .int .i64 t66, .slice v72a l62.length v72c] 26, .own (.slice v72a l62.length v72c) l62, .cells D68 #[.int .i64 t64, .int .i64 t65, .int .i64 t66, .slice v61a l62.length v61c] 26, .own (.slice v61a l62.length v61c) l62, .cells D55 #[.int .i64 w, .int .i64 m49, .int .i64 (1 + m50)] 3, .tape K3, .cells B #[.int .i64 pw, .int .i64 ph, .int .i64 pm, .slice pa pn pc] 26] [] (k156.alloc (.cells #[.int .i64 0, .int .i64 0, .int .i64 0, .slice none 0 0] 26)) from (H155.out.alloc #[.int .i64 0, .int .i64 0, .int .i64 0, .slice none 0 0] 26 hD175))
                    go_simp
                    refine hK.out _ _ ?_ (fun hHeld2 => ?_)
                    focus ((try dsimp only); (exact (HN0.out _ (H176.out.pick [7, 8, 9] rfl (by decide)))))
                    clear hK K hHeld
                    try simp only [Act.put, List.getElem_toArray, List.getElem_cons_zero, List.getElem_cons_succ, List.setIfInBounds_toArray, List.set_cons_zero, List.set_cons_succ]
                    clear hD175
                    generalize (k156.alloc (.cells #[.int .i64 0, .int .i64 0, .int .i64 0, .slice none 0 0] 26)) = k177 at *
                    have hHeld := hHeld2
                    clear hHeld2
                    refine wpAnyH_ready (rs := [10]) (by kernel_rfl) (by simp) (AllReadyH.cons (o := _) rfl (fun K hK => ?_) AllReadyH.nil)
                    go_simp
                    go_at_call 56
                    refine (qnew_any _ _ _ _).mono ?_
                    rintro e w178 ⟨v179, rfl, ho, hb⟩
                    rw [HNl80.out] at ho
                    have H180 := hid (H176.out.grow hb ho)
                    obtain ⟨v179a, v179c, rfl, _⟩ := ho.slc
                    clear ho hb
                    rw [HNt77.out]
                    rw [HNt78.out]
                    rw [HNt79.out]
                    rw [HNb81.out]
                    refine hK.out _ _ ?_ (fun hHeld2 => ?_)
                    focus ((try dsimp only); (exact (HN0.out _ (H180.out.pick [8, 9, 10] rfl (by decide)))))
                    clear hK K
                    try simp only [Act.put, List.getElem_toArray, List.getElem_cons_zero, List.getElem_cons_succ, List.setIfInBounds_toArray, List.set_cons_zero, List.set_cons_succ]
                    clear hHeld
                    have hHeld := hHeld2
                    clear hHeld2
                    refine wpAnyH_take (i := 11) (oi := _) (v := ?_) rfl (by kernel_rfl) (by kernel_rfl) (by kernel_rfl) (fun _ _ _ h => h) (Or.inl ⟨by rfl, ?_⟩) (by assumption) ?_
                    rotate_left
                    focus (intro wS hSw; (try dsimp only at hSw); go_simp; (try with_reducible rfl))
                    try simp only [Act.put, List.getElem_toArray, List.getElem_cons_zero, List.getElem_cons_succ, List.setIfInBounds_toArray, List.set_cons_zero, List.set_cons_succ]
                    refine wpAnyH_take (i := 12) (oi := _) (v := ?_) rfl (by kernel_rfl) (by kernel_rfl) (by kernel_rfl) (fun _ _ _ h => h) (Or.inl ⟨by rfl, ?_⟩) (by assumption) ?_
                    rotate_left
                    focus (intro wS hSw; (try dsimp only at hSw); go_simp; (try with_reducible rfl))
                    try simp only [Act.put, List.getElem_toArray, List.getElem_cons_zero, List.getElem_cons_succ, List.setIfInBounds_toArray, List.set_cons_zero, List.set_cons_succ]
                    refine wpAnyH_take (i := 13) (oi := _) (v := ?_) rfl (by kernel_rfl) (by kernel_rfl) (by kernel_rfl) (fun _ _ _ h => h) (Or.inl ⟨by rfl, ?_⟩) (by assumption) ?_
                    rotate_left
                    focus (intro wS hSw; (try dsimp only at hSw); go_simp; (try with_reducible rfl))
                    try simp only [Act.put, List.getElem_toArray, List.getElem_cons_zero, List.getElem_cons_succ, List.setIfInBounds_toArray, List.set_cons_zero, List.set_cons_succ]
                    refine wpAnyH_ready (rs := [15]) (by kernel_rfl) (by simp) (AllReadyH.cons (o := _) rfl (fun K hK => ?_) AllReadyH.nil)
                    have z181 := H180.out.cell 1 rfl 0 rfl
                    have z182 := H180.out.free 1 rfl 0
                    have z183 := H180.out.cell 1 rfl 1 rfl
                    have z184 := H180.out.free 1 rfl 1
                    have z185 := H180.out.cell 1 rfl 2 rfl
                    have z186 := H180.out.free 1 rfl 2
                    have z187 := H180.out.cell 1 rfl 3 rfl
                    have z188 := H180.out.free 1 rfl 3
                    have H189 := hid (show St B W [.own (.slice v179a l80.length v179c) l80, .cells D175 #[.int .i64 t77, .int .i64 t78, .int .i64 t79, .slice v179a l80.length v179c] 26, .cells DD15 #[.int .i64 t77, .int .i64 t78, .int .i64 t79, .slice x15a l80.length x15c] 26, .own (.slice x15a l80.length x15c) l80, .cells D74 #[.int .i64 t64, .int .i64 t65, .int .i64 t66, .slice v72a l62.length v72c] 26, .own (.slice v72a l62.length v72c) l62, .cells D68 #[.int .i64 t64, .int .i64 t65, .int .i64 t66, .slice v61a l62.length v61c] 26, .own (.slice v61a l62.length v61c) l62, .cells D55 #[.int .i64 w, .int .i64 m49, .int .i64 (1 + m50)] 3, .tape K3, .cells B #[.int .i64 pw, .int .i64 ph, .int .i64 pm, .slice pa pn pc] 26] [] ((((w178.setCell ⟨D175, 0, none⟩ (.int .i64 t77)).setCell ⟨D175, 1, none⟩ (.int .i64 t78)).setCell ⟨D175, 2, none⟩ (.int .i64 t79)).setCell ⟨D175, 3, none⟩ (.slice v179a l80.length v179c)) from (H180.out.set4 1 rfl (.int .i64 t77) (.int .i64 t78) (.int .i64 t79) (.slice v179a l80.length v179c)))
                    go_simp
                    refine hK.out _ _ ?_ (fun hHeld2 => ?_)
                    focus ((try dsimp only); (exact (HN0.out _ (H189.out.pick [8, 9, 10] rfl (by decide)))))
                    clear hK K hHeld
                    try simp only [Act.put, List.getElem_toArray, List.getElem_cons_zero, List.getElem_cons_succ, List.setIfInBounds_toArray, List.set_cons_zero, List.set_cons_succ]
                    clear z181 z182 z183 z184 z185 z186 z187 z188
                    generalize ((((w178.setCell ⟨D175, 0, none⟩ (.int .i64 t77)).setCell ⟨D175, 1, none⟩ (.int .i64 t78)).setCell ⟨D175, 2, none⟩ (.int .i64 t79)).setCell ⟨D175, 3, none⟩ (.slice v179a l80.length v179c)) = k190 at *
                    have hHeld := hHeld2
                    clear hHeld2
                    refine wpAnyH_take (i := 16) (oi := _) (v := ?_) rfl (by kernel_rfl) (by kernel_rfl) (by kernel_rfl) (fun _ _ _ h => h) (Or.inl ⟨by rfl, ?_⟩) (by assumption) ?_
                    rotate_left
                    focus (intro wS hSw; (try dsimp only at hSw); go_simp; (try with_reducible rfl))
                    try simp only [Act.put, List.getElem_toArray, List.getElem_cons_zero, List.getElem_cons_succ, List.setIfInBounds_toArray, List.set_cons_zero, List.set_cons_succ]
                    refine wpAnyH_done (by kernel_rfl) ?_ _
                    try clear hHeld
                    go_wp2_with fail
                    go_meet
                    exact ⟨_, _, _, rfl, rfl, H189.out.pick [1, 0, 2, 3, 4, 5, 6, 7, 8, 9, 10] rfl (by decide)⟩
                · obtain ⟨D191, hD191⟩ : ∃ D, k156.heap.size = D := ⟨_, rfl⟩
                  have H192 := hid (show St B W [.cells D191 #[.int .i64 0, .int .i64 0, .int .i64 0, .slice none 0 0] 26, .cells DD15 #[.int .i64 t77, .int .i64 t78, .int .i64 t79, .slice x15a l80.length x15c] 26, .own (.slice x15a l80.length x15c) l80, .cells D74 #[.int .i64 t64, .int .i64 t65, .int .i64 t66, .slice v72a l62.length v72c] 26, .own (.slice v72a l62.length v72c) l62, .cells D68 #[.int .i64 t64, .int .i64 t65, .int .i64 t66, .slice v61a l62.length v61c] 26, .own (.slice v61a l62.length v61c) l62, .cells D55 #[.int .i64 w, .int .i64 m49, .int .i64 (1 + m50)] 3, .tape K3, .cells B #[.int .i64 pw, .int .i64 ph, .int .i64 pm, .slice pa pn pc] 26] [] (k156.alloc (.cells #[.int .i64 0, .int .i64 0, .int .i64 0, .slice none 0 0] 26)) from (H155.out.alloc #[.int .i64 0, .int .i64 0, .int .i64 0, .slice none 0 0] 26 hD191))
                  go_simp
                  refine hK.out _ _ ?_ (fun hHeld2 => ?_)
                  focus ((try dsimp only); (exact (HN0.out _ (H192.out.pick [7, 8, 9] rfl (by decide)))))
                  clear hK K hHeld
                  try simp only [Act.put, List.getElem_toArray, List.getElem_cons_zero, List.getElem_cons_succ, List.setIfInBounds_toArray, List.set_cons_zero, List.set_cons_succ]
                  clear hD191
                  generalize (k156.alloc (.cells #[.int .i64 0, .int .i64 0, .int .i64 0, .slice none 0 0] 26)) = k193 at *
                  have hHeld := hHeld2
                  clear hHeld2
                  refine wpAnyH_ready (rs := [8]) (by kernel_rfl) (by simp) (AllReadyH.cons (o := _) rfl (fun K hK => ?_) AllReadyH.nil)
                  go_simp
                  go_at_call 23
                  refine (mod_any _ _ _ (by omega) (by omega)).mono ?_
                  rintro e w194 ⟨rfl, hsw⟩
                  have hsw2 : k193 = w194 := by first | exact hsw | exact hsw.symm
                  clear hsw
                  subst hsw2
                  rw [HNm52.out]
                  refine hK.out _ _ ?_ (fun hHeld2 => ?_)
                  focus ((try dsimp only); (exact (HN0.out _ (H192.out.pick [7, 8, 9] rfl (by decide)))))
                  clear hK K
                  try simp only [Act.put, List.getElem_toArray, List.getElem_cons_zero, List.getElem_cons_succ, List.setIfInBounds_toArray, List.set_cons_zero, List.set_cons_succ]
                  clear hHeld
                  have hHeld := hHeld2
                  clear hHeld2
                  refine wpAnyH_take (i := 9) (oi := _) (v := ?_) rfl (by kernel_rfl) (by kernel_rfl) (by kernel_rfl) (fun _ _ _ h => h) (Or.inl ⟨by rfl, ?_⟩) (by assumption) ?_
                  rotate_left
                  focus (intro wS hSw; (try dsimp only at hSw); go_simp; (try with_reducible rfl))
                  try simp only [Act.put, List.getElem_toArray, List.getElem_cons_zero, List.getElem_cons_succ, List.setIfInBounds_toArray, List.set_cons_zero, List.set_cons_succ]
                  refine wpAnyH_ready (rs := [10]) (by kernel_rfl) (by simp) (AllReadyH.cons (o := _) rfl (fun K hK => ?_) AllReadyH.nil)
                  go_simp
                  go_at_call 56
                  refine (qnew_any _ _ _ _).mono ?_
                  rintro e w195 ⟨v196, rfl, ho, hb⟩
                  rw [HNl80.out] at ho
                  have H197 := hid (H192.out.grow hb ho)
                  obtain ⟨v196a, v196c, rfl, _⟩ := ho.slc
                  clear ho hb
                  rw [HNt77.out]
                  rw [HNt78.out]
                  rw [HNt79.out]
                  rw [HNb81.out]
                  refine hK.out _ _ ?_ (fun hHeld2 => ?_)
                  focus ((try dsimp only); (exact (HN0.out _ (H197.out.pick [8, 9, 10] rfl (by decide)))))
                  clear hK K
                  try simp only [Act.put, List.getElem_toArray, List.getElem_cons_zero, List.getElem_cons_succ, List.setIfInBounds_toArray, List.set_cons_zero, List.set_cons_succ]
                  clear hHeld
                  have hHeld := hHeld2
                  clear hHeld2
                  refine wpAnyH_take (i := 11) (oi := _) (v := ?_) rfl (by kernel_rfl) (by kernel_rfl) (by kernel_rfl) (fun _ _ _ h => h) (Or.inl ⟨by rfl, ?_⟩) (by assumption) ?_
                  rotate_left
                  focus (intro wS hSw; (try dsimp only at hSw); go_simp; (try with_reducible rfl))
                  try simp only [Act.put, List.getElem_toArray, List.getElem_cons_zero, List.getElem_cons_succ, List.setIfInBounds_toArray, List.set_cons_zero, List.set_cons_succ]
                  refine wpAnyH_take (i := 12) (oi := _) (v := ?_) rfl (by kernel_rfl) (by kernel_rfl) (by kernel_rfl) (fun _ _ _ h => h) (Or.inl ⟨by rfl, ?_⟩) (by assumption) ?_
                  rotate_left
                  focus (intro wS hSw; (try dsimp only at hSw); go_simp; (try with_reducible rfl))
                  try simp only [Act.put, List.getElem_toArray, List.getElem_cons_zero, List.getElem_cons_succ, List.setIfInBounds_toArray, List.set_cons_zero, List.set_cons_succ]
                  refine wpAnyH_take (i := 13) (oi := _) (v := ?_) rfl (by kernel_rfl) (by kernel_rfl) (by kernel_rfl) (fun _ _ _ h => h) (Or.inl ⟨by rfl, ?_⟩) (by assumption) ?_
                  rotate_left
                  focus (intro wS hSw; (try dsimp only at hSw); go_simp; (try with_reducible rfl))
                  try simp only [Act.put, List.getElem_toArray, List.getElem_cons_zero, List.getElem_cons_succ, List.setIfInBounds_toArray, List.set_cons_zero, List.set_cons_succ]
                  refine wpAnyH_ready (rs := [15]) (by kernel_rfl) (by simp) (AllReadyH.cons (o := _) rfl (fun K hK => ?_) AllReadyH.nil)
                  have z198 := H197.out.cell 1 rfl 0 rfl
                  have z199 := H197.out.free 1 rfl 0
                  have z200 := H197.out.cell 1 rfl 1 rfl
                  have z201 := H197.out.free 1 rfl 1
                  have z202 := H197.out.cell 1 rfl 2 rfl
                  have z203 := H197.out.free 1 rfl 2
                  have z204 := H197.out.cell 1 rfl 3 rfl
                  have z205 := H197.out.free 1 rfl 3
                  have H206 := hid (show St B W [.own (.slice v196a l80.length v196c) l80, .cells D191 #[.int .i64 t77, .int .i64 t78, .int .i64 t79, .slice v196a l80.length v196c] 26, .cells DD15 #[.int .i64 t77, .int .i64 t78, .int .i64 t79, .slice x15a l80.length x15c] 26, .own (.slice x15a l80.length x15c) l80, .cells D74 #[.int .i64 t64, .int .i64 t65, .int .i64 t66, .slice v72a l62.length v72c] 26, .own (.slice v72a l62.length v72c) l62, .cells D68 #[.int .i64 t64, .int .i64 t65, .int .i64 t66, .slice v61a l62.length v61c] 26, .own (.slice v61a l62.length v61c) l62, .cells D55 #[.int .i64 w, .int .i64 m49, .int .i64 (1 + m50)] 3, .tape K3, .cells B #[.int .i64 pw, .int .i64 ph, .int .i64 pm, .slice pa pn pc] 26] [] ((((w195.setCell ⟨D191, 0, none⟩ (.int .i64 t77)).setCell ⟨D191, 1, none⟩ (.int .i64 t78)).setCell ⟨D191, 2, none⟩ (.int .i64 t79)).setCell ⟨D191, 3, none⟩ (.slice v196a l80.length v196c)) from (H197.out.set4 1 rfl (.int .i64 t77) (.int .i64 t78) (.int .i64 t79) (.slice v196a l80.length v196c)))
                  go_simp
                  refine hK.out _ _ ?_ (fun hHeld2 => ?_)
                  focus ((try dsimp only); (exact (HN0.out _ (H206.out.pick [8, 9, 10] rfl (by decide)))))
                  clear hK K hHeld
                  try simp only [Act.put, List.getElem_toArray, List.getElem_cons_zero, List.getElem_cons_succ, List.setIfInBounds_toArray, List.set_cons_zero, List.set_cons_succ]
                  clear z198 z199 z200 z201 z202 z203 z204 z205
                  generalize ((((w195.setCell ⟨D191, 0, none⟩ (.int .i64 t77)).setCell ⟨D191, 1, none⟩ (.int .i64 t78)).setCell ⟨D191, 2, none⟩ (.int .i64 t79)).setCell ⟨D191, 3, none⟩ (.slice v196a l80.length v196c)) = k207 at *
                  have hHeld := hHeld2
                  clear hHeld2
                  refine wpAnyH_take (i := 16) (oi := _) (v := ?_) rfl (by kernel_rfl) (by kernel_rfl) (by kernel_rfl) (fun _ _ _ h => h) (Or.inl ⟨by rfl, ?_⟩) (by assumption) ?_
                  rotate_left
                  focus (intro wS hSw; (try dsimp only at hSw); go_simp; (try with_reducible rfl))
                  try simp only [Act.put, List.getElem_toArray, List.getElem_cons_zero, List.getElem_cons_succ, List.setIfInBounds_toArray, List.set_cons_zero, List.set_cons_succ]
                  refine wpAnyH_done (by kernel_rfl) ?_ _
                  try clear hHeld
                  go_wp2_with fail
                  go_meet
                  exact ⟨_, _, _, rfl, rfl, H206.out.pick [1, 0, 2, 3, 4, 5, 6, 7, 8, 9, 10] rfl (by decide)⟩
              · obtain ⟨D208, hD208⟩ : ∃ D, k156.heap.size = D := ⟨_, rfl⟩
                have H209 := hid (show St B W [.cells D208 #[.int .i64 0, .int .i64 0, .int .i64 0, .slice none 0 0] 26, .cells DD15 #[.int .i64 t77, .int .i64 t78, .int .i64 t79, .slice x15a l80.length x15c] 26, .own (.slice x15a l80.length x15c) l80, .cells D74 #[.int .i64 t64, .int .i64 t65, .int .i64 t66, .slice v72a l62.length v72c] 26, .own (.slice v72a l62.length v72c) l62, .cells D68 #[.int .i64 t64, .int .i64 t65, .int .i64 t66, .slice v61a l62.length v61c] 26, .own (.slice v61a l62.length v61c) l62, .cells D55 #[.int .i64 w, .int .i64 m49, .int .i64 (1 + m50)] 3, .tape K3, .cells B #[.int .i64 pw, .int .i64 ph, .int .i64 pm, .slice pa pn pc] 26] [] (k156.alloc (.cells #[.int .i64 0, .int .i64 0, .int .i64 0, .slice none 0 0] 26)) from (H155.out.alloc #[.int .i64 0, .int .i64 0, .int .i64 0, .slice none 0 0] 26 hD208))
                go_simp
                refine hK.out _ _ ?_ (fun hHeld2 => ?_)
                focus ((try dsimp only); (exact (HN0.out _ (H209.out.pick [7, 8, 9] rfl (by decide)))))
                clear hK K hHeld
                try simp only [Act.put, List.getElem_toArray, List.getElem_cons_zero, List.getElem_cons_succ, List.setIfInBounds_toArray, List.set_cons_zero, List.set_cons_succ]
                clear hD208
                generalize (k156.alloc (.cells #[.int .i64 0, .int .i64 0, .int .i64 0, .slice none 0 0] 26)) = k210 at *
                have hHeld := hHeld2
                clear hHeld2
                refine wpAnyH_ready (rs := [5]) (by kernel_rfl) (by simp) (AllReadyH.cons (o := _) rfl (fun K hK => ?_) AllReadyH.nil)
                go_simp
                go_at_call 23
                refine (mod_any _ _ _ (by omega) (by omega)).mono ?_
                rintro e w211 ⟨rfl, hsw⟩
                have hsw2 : k210 = w211 := by first | exact hsw | exact hsw.symm
                clear hsw
                subst hsw2
                rw [HNm51.out]
                refine hK.out _ _ ?_ (fun hHeld2 => ?_)
                focus ((try dsimp only); (exact (HN0.out _ (H209.out.pick [7, 8, 9] rfl (by decide)))))
                clear hK K
                try simp only [Act.put, List.getElem_toArray, List.getElem_cons_zero, List.getElem_cons_succ, List.setIfInBounds_toArray, List.set_cons_zero, List.set_cons_succ]
                clear hHeld
                have hHeld := hHeld2
                clear hHeld2
                refine wpAnyH_take (i := 6) (oi := _) (v := ?_) rfl (by kernel_rfl) (by kernel_rfl) (by kernel_rfl) (fun _ _ _ h => h) (Or.inl ⟨by rfl, ?_⟩) (by assumption) ?_
                rotate_left
                focus (intro wS hSw; (try dsimp only at hSw); go_simp; (try with_reducible rfl))
                try simp only [Act.put, List.getElem_toArray, List.getElem_cons_zero, List.getElem_cons_succ, List.setIfInBounds_toArray, List.set_cons_zero, List.set_cons_succ]
                refine wpAnyH_ready (rs := [8]) (by kernel_rfl) (by simp) (AllReadyH.cons (o := _) rfl (fun K hK => ?_) AllReadyH.nil)
                go_simp
                go_at_call 23
                refine (mod_any _ _ _ (by omega) (by omega)).mono ?_
                rintro e w212 ⟨rfl, hsw⟩
                have hsw2 : k210 = w212 := by first | exact hsw | exact hsw.symm
                clear hsw
                subst hsw2
                rw [HNm52.out]
                refine hK.out _ _ ?_ (fun hHeld2 => ?_)
                focus ((try dsimp only); (exact (HN0.out _ (H209.out.pick [7, 8, 9] rfl (by decide)))))
                clear hK K
                try simp only [Act.put, List.getElem_toArray, List.getElem_cons_zero, List.getElem_cons_succ, List.setIfInBounds_toArray, List.set_cons_zero, List.set_cons_succ]
                clear hHeld
                have hHeld := hHeld2
                clear hHeld2
                refine wpAnyH_take (i := 9) (oi := _) (v := ?_) rfl (by kernel_rfl) (by kernel_rfl) (by kernel_rfl) (fun _ _ _ h => h) (Or.inl ⟨by rfl, ?_⟩) (by assumption) ?_
                rotate_left
                focus (intro wS hSw; (try dsimp only at hSw); go_simp; (try with_reducible rfl))
                try simp only [Act.put, List.getElem_toArray, List.getElem_cons_zero, List.getElem_cons_succ, List.setIfInBounds_toArray, List.set_cons_zero, List.set_cons_succ]
                refine wpAnyH_ready (rs := [10]) (by kernel_rfl) (by simp) (AllReadyH.cons (o := _) rfl (fun K hK => ?_) AllReadyH.nil)
                go_simp
                go_at_call 56
                refine (qnew_any _ _ _ _).mono ?_
                rintro e w213 ⟨v214, rfl, ho, hb⟩
                rw [HNl80.out] at ho
                have H215 := hid (H209.out.grow hb ho)
                obtain ⟨v214a, v214c, rfl, _⟩ := ho.slc
                clear ho hb
                rw [HNt77.out]
                rw [HNt78.out]
                rw [HNt79.out]
                rw [HNb81.out]
                refine hK.out _ _ ?_ (fun hHeld2 => ?_)
                focus ((try dsimp only); (exact (HN0.out _ (H215.out.pick [8, 9, 10] rfl (by decide)))))
                clear hK K
                try simp only [Act.put, List.getElem_toArray, List.getElem_cons_zero, List.getElem_cons_succ, List.setIfInBounds_toArray, List.set_cons_zero, List.set_cons_succ]
                clear hHeld
                have hHeld := hHeld2
                clear hHeld2
                refine wpAnyH_take (i := 11) (oi := _) (v := ?_) rfl (by kernel_rfl) (by kernel_rfl) (by kernel_rfl) (fun _ _ _ h => h) (Or.inl ⟨by rfl, ?_⟩) (by assumption) ?_
                rotate_left
                focus (intro wS hSw; (try dsimp only at hSw); go_simp; (try with_reducible rfl))
                try simp only [Act.put, List.getElem_toArray, List.getElem_cons_zero, List.getElem_cons_succ, List.setIfInBounds_toArray, List.set_cons_zero, List.set_cons_succ]
                refine wpAnyH_take (i := 12) (oi := _) (v := ?_) rfl (by kernel_rfl) (by kernel_rfl) (by kernel_rfl) (fun _ _ _ h => h) (Or.inl ⟨by rfl, ?_⟩) (by assumption) ?_
                rotate_left
                focus (intro wS hSw; (try dsimp only at hSw); go_simp; (try with_reducible rfl))
                try simp only [Act.put, List.getElem_toArray, List.getElem_cons_zero, List.getElem_cons_succ, List.setIfInBounds_toArray, List.set_cons_zero, List.set_cons_succ]
                refine wpAnyH_take (i := 13) (oi := _) (v := ?_) rfl (by kernel_rfl) (by kernel_rfl) (by kernel_rfl) (fun _ _ _ h => h) (Or.inl ⟨by rfl, ?_⟩) (by assumption) ?_
                rotate_left
                focus (intro wS hSw; (try dsimp only at hSw); go_simp; (try with_reducible rfl))
                try simp only [Act.put, List.getElem_toArray, List.getElem_cons_zero, List.getElem_cons_succ, List.setIfInBounds_toArray, List.set_cons_zero, List.set_cons_succ]
                refine wpAnyH_ready (rs := [15]) (by kernel_rfl) (by simp) (AllReadyH.cons (o := _) rfl (fun K hK => ?_) AllReadyH.nil)
                have z216 := H215.out.cell 1 rfl 0 rfl
                have z217 := H215.out.free 1 rfl 0
                have z218 := H215.out.cell 1 rfl 1 rfl
                have z219 := H215.out.free 1 rfl 1
                have z220 := H215.out.cell 1 rfl 2 rfl
                have z221 := H215.out.free 1 rfl 2
                have z222 := H215.out.cell 1 rfl 3 rfl
                have z223 := H215.out.free 1 rfl 3
                have H224 := hid (show St B W [.own (.slice v214a l80.length v214c) l80, .cells D208 #[.int .i64 t77, .int .i64 t78, .int .i64 t79, .slice v214a l80.length v214c] 26, .cells DD15 #[.int .i64 t77, .int .i64 t78, .int .i64 t79, .slice x15a l80.length x15c] 26, .own (.slice x15a l80.length x15c) l80, .cells D74 #[.int .i64 t64, .int .i64 t65, .int .i64 t66, .slice v72a l62.length v72c] 26, .own (.slice v72a l62.length v72c) l62, .cells D68 #[.int .i64 t64, .int .i64 t65, .int .i64 t66, .slice v61a l62.length v61c] 26, .own (.slice v61a l62.length v61c) l62, .cells D55 #[.int .i64 w, .int .i64 m49, .int .i64 (1 + m50)] 3, .tape K3, .cells B #[.int .i64 pw, .int .i64 ph, .int .i64 pm, .slice pa pn pc] 26] [] ((((w213.setCell ⟨D208, 0, none⟩ (.int .i64 t77)).setCell ⟨D208, 1, none⟩ (.int .i64 t78)).setCell ⟨D208, 2, none⟩ (.int .i64 t79)).setCell ⟨D208, 3, none⟩ (.slice v214a l80.length v214c)) from (H215.out.set4 1 rfl (.int .i64 t77) (.int .i64 t78) (.int .i64 t79) (.slice v214a l80.length v214c)))
                go_simp
                refine hK.out _ _ ?_ (fun hHeld2 => ?_)
                focus ((try dsimp only); (exact (HN0.out _ (H224.out.pick [8, 9, 10] rfl (by decide)))))
                clear hK K hHeld
                try simp only [Act.put, List.getElem_toArray, List.getElem_cons_zero, List.getElem_cons_succ, List.setIfInBounds_toArray, List.set_cons_zero, List.set_cons_succ]
                clear z216 z217 z218 z219 z220 z221 z222 z223
                generalize ((((w213.setCell ⟨D208, 0, none⟩ (.int .i64 t77)).setCell ⟨D208, 1, none⟩ (.int .i64 t78)).setCell ⟨D208, 2, none⟩ (.int .i64 t79)).setCell ⟨D208, 3, none⟩ (.slice v214a l80.length v214c)) = k225 at *
                have hHeld := hHeld2
                clear hHeld2
                refine wpAnyH_take (i := 16) (oi := _) (v := ?_) rfl (by kernel_rfl) (by kernel_rfl) (by kernel_rfl) (fun _ _ _ h => h) (Or.inl ⟨by rfl, ?_⟩) (by assumption) ?_
                rotate_left
                focus (intro wS hSw; (try dsimp only at hSw); go_simp; (try with_reducible rfl))
                try simp only [Act.put, List.getElem_toArray, List.getElem_cons_zero, List.getElem_cons_succ, List.setIfInBounds_toArray, List.set_cons_zero, List.set_cons_succ]
                refine wpAnyH_done (by kernel_rfl) ?_ _
                try clear hHeld
                go_wp2_with fail
                go_meet
                exact ⟨_, _, _, rfl, rfl, H224.out.pick [1, 0, 2, 3, 4, 5, 6, 7, 8, 9, 10] rfl (by decide)⟩
            case rest =>
              obtain ⟨DD16, x16a, x16c, rfl, rfl, hst⟩ := hcut
              obtain ⟨u226, rfl⟩ : ∃ u226 : World, u226 = wc := ⟨_, rfl⟩
              have H227 := hid hst
              clear hst
              have z228 := H227.out.cell 6 rfl 0 rfl
              have z229 := H227.out.cell 6 rfl 1 rfl
              have z230 := H227.out.cell 6 rfl 2 rfl
              have z231 := H227.out.cell 6 rfl 3 rfl
              have z232 := H227.out.cell 4 rfl 0 rfl
              have z233 := H227.out.cell 4 rfl 1 rfl
              have z234 := H227.out.cell 4 rfl 2 rfl
              have z235 := H227.out.cell 4 rfl 3 rfl
              go_wp2_with fail
              clear z228 z229 z230 z231 z232 z233 z234 z235
              refine (pequal_any _ _ _ _ _ _ l62 _ _ _ _ _ _ l62 _ (H227.out.slc 7 rfl) (H227.out.slc 5 rfl)).mono ?_
              rintro e w236 ⟨rfl, hb⟩
              have H237 := hid (H227.out.call hb)
              clear hb
              rw [show pEq t64 t65 t66 l62 t64 t65 t66 l62 = true from by simp [pEq]]
              have z238 := H237.out.cell 2 rfl 0 rfl
              have z239 := H237.out.cell 2 rfl 1 rfl
              have z240 := H237.out.cell 2 rfl 2 rfl
              have z241 := H237.out.cell 2 rfl 3 rfl
              have z242 := H237.out.cell 0 rfl 0 rfl
              have z243 := H237.out.cell 0 rfl 1 rfl
              have z244 := H237.out.cell 0 rfl 2 rfl
              have z245 := H237.out.cell 0 rfl 3 rfl
              go_wp2_with fail
              clear z238 z239 z240 z241 z242 z243 z244 z245
              refine (qequal_any _ _ _ _ _ _ l80 _ _ _ _ _ _ l80 _ (H237.out.slc 3 rfl) (H237.out.slc 1 rfl)).mono ?_
              rintro e w246 ⟨rfl, hb⟩
              have H247 := hid (H237.out.call hb)
              clear hb
              rw [show pEq t77 t78 t79 l80 t77 t78 t79 l80 = true from by simp [pEq]]
              go_wp2_with fail
              go_roundw
              case rel => exact ⟨j + 1, by omega, by go_num, H247.out.pick [8, 9, 10] rfl (by decide)⟩
              case measure => first | (simp [intOf]; omega) | (simp [intOf]; done)
        · skip
          have hj3 : ¬ ((j : Int) < 3) := by omega
          go_upto_region 19 with fail
          by_cases hbig : 5000 < pn
          · skip
            have hbig' : (5000 : Int) < pn := by omega
            go_upto_region 19 with fail
            have H248 := hid H59.out.drew
            refine wp_region_held_drew (S := (fun w' => w'.cell? ⟨B, 0, none⟩ = some (.int .i64 pw) ∧ w'.cell? ⟨B, 1, none⟩ = some (.int .i64 ph) ∧ w'.cell? ⟨B, 2, none⟩ = some (.int .i64 pm) ∧ w'.cell? ⟨B, 3, none⟩ = some (.slice pa pn pc))) (by kernel_rfl) ⟨H248.out.cell 2 rfl 0 rfl, H248.out.cell 2 rfl 1 rfl, H248.out.cell 2 rfl 2 rfl, H248.out.cell 2 rfl 3 rfl⟩ (fun hHeld => ?_)
            generalize u58.drew = k249 at *
            refine wpAnyH_take (i := 0) (oi := _) (v := ?_) rfl (by kernel_rfl) (by kernel_rfl) (by kernel_rfl) (fun _ _ _ h => h) (Or.inl ⟨by rfl, ?_⟩) (by assumption) ?_
            rotate_left
            focus (intro wS hSw; (try dsimp only at hSw); go_simp; (try with_reducible rfl))
            try simp only [Act.put, List.getElem_toArray, List.getElem_cons_zero, List.getElem_cons_succ, List.setIfInBounds_toArray, List.set_cons_zero, List.set_cons_succ]
            refine wpAnyH_take (i := 1) (oi := _) (v := ?_) rfl (by kernel_rfl) (by kernel_rfl) (by kernel_rfl) (fun _ _ _ h => h) (Or.inl ⟨by rfl, ?_⟩) (by assumption) ?_
            rotate_left
            focus (intro wS hSw; (try dsimp only at hSw); go_simp; (try with_reducible rfl))
            try simp only [Act.put, List.getElem_toArray, List.getElem_cons_zero, List.getElem_cons_succ, List.setIfInBounds_toArray, List.set_cons_zero, List.set_cons_succ]
            refine wpAnyH_take (i := 2) (oi := _) (v := ?_) rfl (by kernel_rfl) (by kernel_rfl) (by kernel_rfl) (fun _ _ _ h => h) (Or.inl ⟨by rfl, ?_⟩) (by assumption) ?_
            rotate_left
            focus (intro wS hSw; (try dsimp only at hSw); go_simp; (try with_reducible rfl))
            try simp only [Act.put, List.getElem_toArray, List.getElem_cons_zero, List.getElem_cons_succ, List.setIfInBounds_toArray, List.set_cons_zero, List.set_cons_succ]
            refine wpAnyH_take (i := 3) (oi := _) (v := ?_) rfl (by kernel_rfl) (by kernel_rfl) (by kernel_rfl) (fun _ _ _ h => h) (Or.inl ⟨by rfl, ?_⟩) (by assumption) ?_
            rotate_left
            focus (intro wS hSw; (try dsimp only at hSw); go_simp; (try with_reducible rfl))
            try simp only [Act.put, List.getElem_toArray, List.getElem_cons_zero, List.getElem_cons_succ, List.setIfInBounds_toArray, List.set_cons_zero, List.set_cons_succ]
            refine wpAnyH_take (i := 4) (oi := _) (v := ?_) rfl (by kernel_rfl) (by kernel_rfl) (by kernel_rfl) (fun _ _ _ h => h) (Or.inl ⟨by rfl, ?_⟩) (by assumption) ?_
            rotate_left
            focus (intro wS hSw; (try dsimp only at hSw); go_simp; (try with_reducible rfl))
            try simp only [Act.put, List.getElem_toArray, List.getElem_cons_zero, List.getElem_cons_succ, List.setIfInBounds_toArray, List.set_cons_zero, List.set_cons_succ]
            refine wpAnyH_take (i := 5) (oi := _) (v := _) rfl (by kernel_rfl) (by kernel_rfl) (by kernel_rfl) (fun _ _ _ h => h) (Or.inr ⟨by rfl, rfl⟩) (by assumption) ?_
            try simp only [Act.put, List.getElem_toArray, List.getElem_cons_zero, List.getElem_cons_succ, List.setIfInBounds_toArray, List.set_cons_zero, List.set_cons_succ]
            refine wpAnyH_take (i := 6) (oi := _) (v := _) rfl (by kernel_rfl) (by kernel_rfl) (by kernel_rfl) (fun _ _ _ h => h) (Or.inr ⟨by rfl, rfl⟩) (by assumption) ?_
            try simp only [Act.put, List.getElem_toArray, List.getElem_cons_zero, List.getElem_cons_succ, List.setIfInBounds_toArray, List.set_cons_zero, List.set_cons_succ]
            refine wpAnyH_take (i := 7) (oi := _) (v := _) rfl (by kernel_rfl) (by kernel_rfl) (by kernel_rfl) (fun _ _ _ h => h) (Or.inr ⟨by rfl, rfl⟩) (by assumption) ?_
            try simp only [Act.put, List.getElem_toArray, List.getElem_cons_zero, List.getElem_cons_succ, List.setIfInBounds_toArray, List.set_cons_zero, List.set_cons_succ]
            refine wpAnyH_take (i := 8) (oi := _) (v := _) rfl (by kernel_rfl) (by kernel_rfl) (by kernel_rfl) (fun _ _ _ h => h) (Or.inr ⟨by rfl, rfl⟩) (by assumption) ?_
            try simp only [Act.put, List.getElem_toArray, List.getElem_cons_zero, List.getElem_cons_succ, List.setIfInBounds_toArray, List.set_cons_zero, List.set_cons_succ]
            refine wpAnyH_take (i := 9) (oi := _) (v := _) rfl (by kernel_rfl) (by kernel_rfl) (by kernel_rfl) (fun _ _ _ h => h) (Or.inr ⟨by rfl, rfl⟩) (by assumption) ?_
            try simp only [Act.put, List.getElem_toArray, List.getElem_cons_zero, List.getElem_cons_succ, List.setIfInBounds_toArray, List.set_cons_zero, List.set_cons_succ]
            refine wpAnyH_take (i := 10) (oi := _) (v := ?_) rfl (by kernel_rfl) (by kernel_rfl) (by kernel_rfl) (fun _ _ _ h => h) (Or.inl ⟨by rfl, ?_⟩) (by assumption) ?_
            rotate_left
            focus (intro wS hSw; (try dsimp only at hSw); go_simp; (try with_reducible rfl))
            try simp only [Act.put, List.getElem_toArray, List.getElem_cons_zero, List.getElem_cons_succ, List.setIfInBounds_toArray, List.set_cons_zero, List.set_cons_succ]
            refine wpAnyH_take (i := 11) (oi := _) (v := ?_) rfl (by kernel_rfl) (by kernel_rfl) (by kernel_rfl) (fun _ _ _ h => h) (Or.inl ⟨by rfl, ?_⟩) (by assumption) ?_
            rotate_left
            focus (intro wS hSw; (try dsimp only at hSw); go_simp; (try with_reducible rfl))
            try simp only [Act.put, List.getElem_toArray, List.getElem_cons_zero, List.getElem_cons_succ, List.setIfInBounds_toArray, List.set_cons_zero, List.set_cons_succ]
            refine wpAnyH_ready (rs := [12]) (by kernel_rfl) (by simp) (AllReadyH.cons (o := _) rfl (fun K hK => ?_) AllReadyH.nil)
            go_simp
            go_at_call 54
            refine (sane4 _).mono ?_
            rintro e w250 ⟨rfl, hb⟩
            have H251 := hid (H248.out.call hb)
            clear hb
            refine hK.out _ _ ?_ (fun hHeld2 => ?_)
            focus ((try dsimp only); (exact ⟨H251.out.cell 2 rfl 0 rfl, H251.out.cell 2 rfl 1 rfl, H251.out.cell 2 rfl 2 rfl, H251.out.cell 2 rfl 3 rfl⟩))
            clear hK K
            try simp only [Act.put, List.getElem_toArray, List.getElem_cons_zero, List.getElem_cons_succ, List.setIfInBounds_toArray, List.set_cons_zero, List.set_cons_succ]
            clear hHeld
            have hHeld := hHeld2
            clear hHeld2
            refine wpAnyH_take (i := 13) (oi := _) (v := ?_) rfl (by kernel_rfl) (by kernel_rfl) (by kernel_rfl) (fun _ _ _ h => h) (Or.inl ⟨by rfl, ?_⟩) (by assumption) ?_
            rotate_left
            focus (intro wS hSw; (try dsimp only at hSw); go_simp; (try with_reducible rfl))
            try simp only [Act.put, List.getElem_toArray, List.getElem_cons_zero, List.getElem_cons_succ, List.setIfInBounds_toArray, List.set_cons_zero, List.set_cons_succ]
            refine wpAnyH_take (i := 14) (oi := _) (v := ?_) rfl (by kernel_rfl) (by kernel_rfl) (by kernel_rfl) (fun _ _ _ h => h) (Or.inl ⟨by rfl, ?_⟩) (by assumption) ?_
            rotate_left
            focus (intro wS hSw; (try dsimp only at hSw); go_simp; (try with_reducible rfl))
            try simp only [Act.put, List.getElem_toArray, List.getElem_cons_zero, List.getElem_cons_succ, List.setIfInBounds_toArray, List.set_cons_zero, List.set_cons_succ]
            refine wpAnyH_done (by kernel_rfl) ?_ _
            try clear hHeld
            go_wp2_with fail
            go_ret
            exact ⟨rfl, by first | exact H251.out.below | exact H251.out.below'⟩
          · skip
            have hbig' : ¬ ((5000 : Int) < pn) := by omega
            go_upto_region 19 with fail
            have H252 := hid H59.out.drew
            refine wp_region_held_drew (S := (fun w' => w'.cell? ⟨B, 0, none⟩ = some (.int .i64 pw) ∧ w'.cell? ⟨B, 1, none⟩ = some (.int .i64 ph) ∧ w'.cell? ⟨B, 2, none⟩ = some (.int .i64 pm) ∧ w'.cell? ⟨B, 3, none⟩ = some (.slice pa pn pc))) (by kernel_rfl) ⟨H252.out.cell 2 rfl 0 rfl, H252.out.cell 2 rfl 1 rfl, H252.out.cell 2 rfl 2 rfl, H252.out.cell 2 rfl 3 rfl⟩ (fun hHeld => ?_)
            generalize u58.drew = k253 at *
            refine wpAnyH_take (i := 0) (oi := _) (v := ?_) rfl (by kernel_rfl) (by kernel_rfl) (by kernel_rfl) (fun _ _ _ h => h) (Or.inl ⟨by rfl, ?_⟩) (by assumption) ?_
            rotate_left
            focus (intro wS hSw; (try dsimp only at hSw); go_simp; (try with_reducible rfl))
            try simp only [Act.put, List.getElem_toArray, List.getElem_cons_zero, List.getElem_cons_succ, List.setIfInBounds_toArray, List.set_cons_zero, List.set_cons_succ]
            refine wpAnyH_take (i := 1) (oi := _) (v := ?_) rfl (by kernel_rfl) (by kernel_rfl) (by kernel_rfl) (fun _ _ _ h => h) (Or.inl ⟨by rfl, ?_⟩) (by assumption) ?_
            rotate_left
            focus (intro wS hSw; (try dsimp only at hSw); go_simp; (try with_reducible rfl))
            try simp only [Act.put, List.getElem_toArray, List.getElem_cons_zero, List.getElem_cons_succ, List.setIfInBounds_toArray, List.set_cons_zero, List.set_cons_succ]
            refine wpAnyH_take (i := 2) (oi := _) (v := ?_) rfl (by kernel_rfl) (by kernel_rfl) (by kernel_rfl) (fun _ _ _ h => h) (Or.inl ⟨by rfl, ?_⟩) (by assumption) ?_
            rotate_left
            focus (intro wS hSw; (try dsimp only at hSw); go_simp; (try with_reducible rfl))
            try simp only [Act.put, List.getElem_toArray, List.getElem_cons_zero, List.getElem_cons_succ, List.setIfInBounds_toArray, List.set_cons_zero, List.set_cons_succ]
            refine wpAnyH_take (i := 3) (oi := _) (v := ?_) rfl (by kernel_rfl) (by kernel_rfl) (by kernel_rfl) (fun _ _ _ h => h) (Or.inl ⟨by rfl, ?_⟩) (by assumption) ?_
            rotate_left
            focus (intro wS hSw; (try dsimp only at hSw); go_simp; (try with_reducible rfl))
            try simp only [Act.put, List.getElem_toArray, List.getElem_cons_zero, List.getElem_cons_succ, List.setIfInBounds_toArray, List.set_cons_zero, List.set_cons_succ]
            refine wpAnyH_take (i := 4) (oi := _) (v := ?_) rfl (by kernel_rfl) (by kernel_rfl) (by kernel_rfl) (fun _ _ _ h => h) (Or.inl ⟨by rfl, ?_⟩) (by assumption) ?_
            rotate_left
            focus (intro wS hSw; (try dsimp only at hSw); go_simp; (try with_reducible rfl))
            try simp only [Act.put, List.getElem_toArray, List.getElem_cons_zero, List.getElem_cons_succ, List.setIfInBounds_toArray, List.set_cons_zero, List.set_cons_succ]
            refine wpAnyH_take (i := 5) (oi := _) (v := ?_) rfl (by kernel_rfl) (by kernel_rfl) (by kernel_rfl) (fun _ _ _ h => h) (Or.inl ⟨by rfl, ?_⟩) (by assumption) ?_
            rotate_left
            focus (intro wS hSw; (try dsimp only at hSw); go_simp; (try with_reducible rfl))
            try simp only [Act.put, List.getElem_toArray, List.getElem_cons_zero, List.getElem_cons_succ, List.setIfInBounds_toArray, List.set_cons_zero, List.set_cons_succ]
            refine wpAnyH_take (i := 7) (oi := _) (v := ?_) rfl (by kernel_rfl) (by kernel_rfl) (by kernel_rfl) (fun _ _ _ h => h) (Or.inl ⟨by rfl, ?_⟩) (by assumption) ?_
            rotate_left
            focus (intro wS hSw; (try dsimp only at hSw); go_simp; (try with_reducible rfl))
            try simp only [Act.put, List.getElem_toArray, List.getElem_cons_zero, List.getElem_cons_succ, List.setIfInBounds_toArray, List.set_cons_zero, List.set_cons_succ]
            refine wpAnyH_ready (rs := [6]) (by kernel_rfl) (by simp) (AllReadyH.cons (o := _) rfl (fun K hK => ?_) AllReadyH.nil)
            go_simp
            go_at_call 53
            refine (pvalid_any _ _ _ _ _ _ pl _ (by have := (H252.out.old HP.out).nc; have := (H252.out.old HP.out).cap; omega) (H252.out.old HP.out).row).mono ?_
            rintro e w254 ⟨rfl, hb⟩
            have H255 := hid (H252.out.call hb)
            clear hb
            obtain ⟨b256, hb256⟩ : ∃ z, pValid pw ph pm pl = z := ⟨_, rfl⟩
            rw [hb256]
            have HNb256 := hid hb256
            clear hb256
            refine hK.out _ _ ?_ (fun hHeld2 => ?_)
            focus ((try dsimp only); (exact ⟨H255.out.cell 2 rfl 0 rfl, H255.out.cell 2 rfl 1 rfl, H255.out.cell 2 rfl 2 rfl, H255.out.cell 2 rfl 3 rfl⟩))
            clear hK K
            try simp only [Act.put, List.getElem_toArray, List.getElem_cons_zero, List.getElem_cons_succ, List.setIfInBounds_toArray, List.set_cons_zero, List.set_cons_succ]
            clear hHeld
            have hHeld := hHeld2
            clear hHeld2
            refine wpAnyH_ready (rs := [8]) (by kernel_rfl) (by simp) (AllReadyH.cons (o := _) rfl (fun K hK => ?_) AllReadyH.nil)
            go_simp
            go_at_call 52
            refine (qpvalid_any _ _ _ _ _ _ pl _ (by have := (H255.out.old HP.out).nc; have := (H255.out.old HP.out).cap; omega) (H255.out.old HP.out).row).mono ?_
            rintro e w257 ⟨rfl, hb⟩
            have H258 := hid (H255.out.call hb)
            clear hb
            rw [HNb256.out]
            refine hK.out _ _ ?_ (fun hHeld2 => ?_)
            focus ((try dsimp only); (exact ⟨H258.out.cell 2 rfl 0 rfl, H258.out.cell 2 rfl 1 rfl, H258.out.cell 2 rfl 2 rfl, H258.out.cell 2 rfl 3 rfl⟩))
            clear hK K
            try simp only [Act.put, List.getElem_toArray, List.getElem_cons_zero, List.getElem_cons_succ, List.setIfInBounds_toArray, List.set_cons_zero, List.set_cons_succ]
            clear hHeld
            have hHeld := hHeld2
            clear hHeld2
            refine wpAnyH_take (i := 9) (oi := _) (v := ?_) rfl (by kernel_rfl) (by kernel_rfl) (by kernel_rfl) (fun _ _ _ h => h) (Or.inl ⟨by rfl, ?_⟩) (by assumption) ?_
            rotate_left
            focus (intro wS hSw; (try dsimp only at hSw); go_simp; (try with_reducible rfl))
            try simp only [Act.put, List.getElem_toArray, List.getElem_cons_zero, List.getElem_cons_succ, List.setIfInBounds_toArray, List.set_cons_zero, List.set_cons_succ]
            refine wpAnyH_take (i := 10) (oi := _) (v := ?_) rfl (by kernel_rfl) (by kernel_rfl) (by kernel_rfl) (fun _ _ _ h => h) (Or.inl ⟨by rfl, ?_⟩) (by assumption) ?_
            rotate_left
            focus (intro wS hSw; (try dsimp only at hSw); go_simp; (try with_reducible rfl))
            try simp only [Act.put, List.getElem_toArray, List.getElem_cons_zero, List.getElem_cons_succ, List.setIfInBounds_toArray, List.set_cons_zero, List.set_cons_succ]
            refine wpAnyH_take (i := 11) (oi := _) (v := ?_) rfl (by kernel_rfl) (by kernel_rfl) (by kernel_rfl) (fun _ _ _ h => h) (Or.inl ⟨by rfl, ?_⟩) (by assumption) ?_
            rotate_left
            focus (intro wS hSw; (try dsimp only at hSw); go_simp; (try with_reducible rfl))
            try simp only [Act.put, List.getElem_toArray, List.getElem_cons_zero, List.getElem_cons_succ, List.setIfInBounds_toArray, List.set_cons_zero, List.set_cons_succ]
            refine wpAnyH_ready (rs := [12]) (by kernel_rfl) (by simp) (AllReadyH.cons (o := _) rfl (fun K hK => ?_) AllReadyH.nil)
            go_simp
            go_at_call 54
            refine (sane4 _).mono ?_
            rintro e w259 ⟨rfl, hb⟩
            have H260 := hid (H258.out.call hb)
            clear hb
            refine hK.out _ _ ?_ (fun hHeld2 => ?_)
            focus ((try dsimp only); (exact ⟨H260.out.cell 2 rfl 0 rfl, H260.out.cell 2 rfl 1 rfl, H260.out.cell 2 rfl 2 rfl, H260.out.cell 2 rfl 3 rfl⟩))
            clear hK K
            try simp only [Act.put, List.getElem_toArray, List.getElem_cons_zero, List.getElem_cons_succ, List.setIfInBounds_toArray, List.set_cons_zero, List.set_cons_succ]
            clear hHeld
            have hHeld := hHeld2
            clear hHeld2
            refine wpAnyH_take (i := 13) (oi := _) (v := ?_) rfl (by kernel_rfl) (by kernel_rfl) (by kernel_rfl) (fun _ _ _ h => h) (Or.inl ⟨by rfl, ?_⟩) (by assumption) ?_
            rotate_left
            focus (intro wS hSw; (try dsimp only at hSw); go_simp; (try with_reducible rfl))
            try simp only [Act.put, List.getElem_toArray, List.getElem_cons_zero, List.getElem_cons_succ, List.setIfInBounds_toArray, List.set_cons_zero, List.set_cons_succ]
            refine wpAnyH_take (i := 14) (oi := _) (v := ?_) rfl (by kernel_rfl) (by kernel_rfl) (by kernel_rfl) (fun _ _ _ h => h) (Or.inl ⟨by rfl, ?_⟩) (by assumption) ?_
            rotate_left
            focus (intro wS hSw; (try dsimp only at hSw); go_simp; (try with_reducible rfl))
            try simp only [Act.put, List.getElem_toArray, List.getElem_cons_zero, List.getElem_cons_succ, List.setIfInBounds_toArray, List.set_cons_zero, List.set_cons_succ]
            refine wpAnyH_done (by kernel_rfl) ?_ _
            try clear hHeld
            go_wp2_with fail
            go_ret
            exact ⟨rfl, by first | exact H260.out.below | exact H260.out.below'⟩
end Go.Proofs.Ytoojiabdgaflgaa
