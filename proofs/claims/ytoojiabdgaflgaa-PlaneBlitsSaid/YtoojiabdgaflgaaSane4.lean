/-
  Contracts: the examples of the chapter on planes.
-/
import Derived.Test.YtoojiabdgaflgaaQBlit
import Derived.Test.YtoojiabdgaflgaaAt
import Derived.Test.YtoojiabdgaflgaaFrame
namespace Go.Proofs.Ytoojiabdgaflgaa
open Go.RowKit
attribute [local go_sem ↓] Go.wp_at_zero Go.wp_at_succ
set_option linter.unusedVariables false
set_option linter.unusedSimpArgs false

set_option maxRecDepth 100000 in
set_option maxHeartbeats 1600000 in
theorem two_any (W : World) : Calls Try.prog 84 #[] W fun e w' => ∃ v, e = .returned (.agg #[.int .i64 2, .int .i64 2, .int .i64 9, v]) ∧ Own W.heap.size w' v [1, 2, 3, 4] ∧ Below W.heap.size W w' := by
  obtain ⟨B, hB⟩ : ∃ B, W.heap.size = B := ⟨_, rfl⟩
  have HI0 := hid (St.init hB)
  go_enter Try.func84, Try.ntmps84
  go_upto_region 1 with fail
  have H1 := hid (show St B W [.cells B #[.int .i64 0, .int .i64 0, .int .i64 0, .slice none 0 0] 26] [] (W.alloc (.cells #[.int .i64 0, .int .i64 0, .int .i64 0, .slice none 0 0] 26)) from (HI0.out.alloc #[.int .i64 0, .int .i64 0, .int .i64 0, .slice none 0 0] 26 hB))
  first | refine gen_code H1.out ?_ | refine gen_list H1.out ?_ | refine gen_calls H1.out ?_
  intro w2 hG
  clear H1
  have H1 := hid hG
  clear hG
  obtain ⟨D3, hD3⟩ : ∃ D, w2.heap.size = D := ⟨_, rfl⟩
  have z4 := H1.out.cell 0 rfl 0 rfl
  have z5 := H1.out.free 0 rfl 0
  have z6 := H1.out.cell 0 rfl 1 rfl
  have z7 := H1.out.free 0 rfl 1
  have z8 := H1.out.cell 0 rfl 2 rfl
  have z9 := H1.out.free 0 rfl 2
  have z10 := H1.out.cell 0 rfl 3 rfl
  have z11 := H1.out.free 0 rfl 3
  have H12 := hid (show St B W [.cells D3 #[.int .i64 1, .int .i64 2, .int .i64 3, .int .i64 4] 3, .cells B #[.int .i64 0, .int .i64 0, .int .i64 0, .slice none 0 0] 26] [] (w2.alloc (.cells #[.int .i64 1, .int .i64 2, .int .i64 3, .int .i64 4] 3)) from (H1.out.alloc #[.int .i64 1, .int .i64 2, .int .i64 3, .int .i64 4] 3 hD3))
  have z13 := H12.out.cell 1 rfl 0 rfl
  have z14 := H12.out.free 1 rfl 0
  have z15 := H12.out.cell 1 rfl 1 rfl
  have z16 := H12.out.free 1 rfl 1
  have z17 := H12.out.cell 1 rfl 2 rfl
  have z18 := H12.out.free 1 rfl 2
  have z19 := H12.out.cell 1 rfl 3 rfl
  have z20 := H12.out.free 1 rfl 3
  go_wp2_with fail
  clear z4 z5 z6 z7 z8 z9 z10 z11 H12 z13 z14 z15 z16 z17 z18 z19 z20
  have H21 := hid (show St B W [.cells D3 #[.int .i64 1, .int .i64 2, .int .i64 3, .int .i64 4] 3, .cells B #[.int .i64 2, .int .i64 2, .int .i64 9, .slice (some ⟨D3, 0, none⟩) 4 4] 26] [] (((((w2.alloc (.cells #[.int .i64 1, .int .i64 2, .int .i64 3, .int .i64 4] 3)).setCell ⟨B, 0, none⟩ (.int .i64 2)).setCell ⟨B, 1, none⟩ (.int .i64 2)).setCell ⟨B, 2, none⟩ (.int .i64 9)).setCell ⟨B, 3, none⟩ (.slice (some ⟨D3, 0, none⟩) 4 4)) from ((H1.out.alloc #[.int .i64 1, .int .i64 2, .int .i64 3, .int .i64 4] 3 hD3).set4 1 rfl (.int .i64 2) (.int .i64 2) (.int .i64 9) (.slice (some ⟨D3, 0, none⟩) 4 4)))
  clear hD3
  have q22 := H21.out.cell 1 rfl 0 rfl
  have q23 := H21.out.cell 1 rfl 1 rfl
  have q24 := H21.out.cell 1 rfl 2 rfl
  have q25 := H21.out.cell 1 rfl 3 rfl
  refine bodyPost_ret (v := .agg #[.int .i64 2, .int .i64 2, .int .i64 9, .slice (some ⟨D3, 0, none⟩) 4 4]) ?_ rfl ⟨_, rfl, by rw [hB]; exact (H21.out.litOwn 0 [1, 2, 3, 4] rfl (by simp)).own 0 rfl, by first | exact H21.out.below | exact H21.out.below'⟩
  simp [results, Try.results84, go_sem, q22, q23, q24, q25]

set_option maxRecDepth 100000 in
set_option maxHeartbeats 6400000 in
theorem sane4 (W : World) : Calls Try.prog 54 #[] W fun e w' => e = .returned (.bool true) ∧ Below W.heap.size W w' := by
  obtain ⟨B, hB⟩ : ∃ B, W.heap.size = B := ⟨_, rfl⟩
  have HI0 := hid (St.init hB)
  go_enter Try.func54, Try.ntmps54
  go_wp2_with fail
  refine (two_any _).mono ?_
  rintro e w26 ⟨v27, rfl, ho, hb⟩
  have H28 := hid (HI0.out.grow hb ho)
  obtain ⟨v27g, v27c, rfl⟩ := ho.pos (by decide)
  clear ho hb
  go_wp2_with fail
  refine (pcrop_any _ _ _ _ _ _ [1, 2, 3, 4] _ _ _ _ _ (H28.out.slc 0 rfl)).mono ?_
  rintro e w29 ⟨v30, rfl, ho, hb⟩
  rw [show cIf 2 2 9 [1, 2, 3, 4] 1 0 2 2 (2 - 1) = 1 from by decide +kernel]
  rw [show cIf 2 2 9 [1, 2, 3, 4] 1 0 2 2 (2 - 0) = 2 from by decide +kernel]
  rw [show cIf 2 2 9 [1, 2, 3, 4] 1 0 2 2 9 = 9 from by decide +kernel]
  rw [show cOk 2 2 9 [1, 2, 3, 4] 1 0 2 2 = true from by decide +kernel]
  rw [show cList 2 2 9 [1, 2, 3, 4] 1 0 2 2 = [2, 4] from by decide +kernel] at ho
  have H31 := hid (H28.out.grow hb ho)
  obtain ⟨v30g, v30c, rfl⟩ := ho.pos (by decide)
  clear ho hb
  obtain ⟨D32, hD32⟩ : ∃ D, w29.heap.size = D := ⟨_, rfl⟩
  go_upto_region 2 with fail
  have H33 := hid (show St B W [.cells D32 #[.int .i64 1, .int .i64 2, .int .i64 9, .slice (some ⟨v30g, 0, none⟩) 2 v30c] 26, .own (.slice (some ⟨v30g, 0, none⟩) 2 v30c) ([2, 4]), .own (.slice (some ⟨v27g, 0, none⟩) 4 v27c) ([1, 2, 3, 4])] [] (w29.alloc (.cells #[.int .i64 1, .int .i64 2, .int .i64 9, .slice (some ⟨v30g, 0, none⟩) 2 v30c] 26)) from (H31.out.alloc #[.int .i64 1, .int .i64 2, .int .i64 9, .slice (some ⟨v30g, 0, none⟩) 2 v30c] 26 hD32))
  first | refine gen_code H33.out ?_ | refine gen_list H33.out ?_ | refine gen_calls H33.out ?_
  intro w34 hG
  clear H33
  have H33 := hid hG
  clear hG
  clear hD32
  go_wp2_with fail
  refine (pnew_any _ _ _ _).mono ?_
  rintro e w35 ⟨v36, rfl, ho, hb⟩
  rw [show nIf 3 1 5 3 = 3 from by decide +kernel]
  rw [show nIf 3 1 5 1 = 1 from by decide +kernel]
  rw [show nIf 3 1 5 5 = 5 from by decide +kernel]
  rw [show pOk 3 1 5 = true from by decide +kernel]
  rw [show nList 3 1 5 = [0, 0, 0] from by decide +kernel] at ho
  have H37 := hid (H33.out.grow hb ho)
  obtain ⟨v36g, v36c, rfl⟩ := ho.pos (by decide)
  clear ho hb
  obtain ⟨D38, hD38⟩ : ∃ D, w35.heap.size = D := ⟨_, rfl⟩
  go_upto_region 3 with fail
  have H39 := hid (show St B W [.cells D38 #[.int .i64 3, .int .i64 1, .int .i64 5, .slice (some ⟨v36g, 0, none⟩) 3 v36c] 26, .own (.slice (some ⟨v36g, 0, none⟩) 3 v36c) ([0, 0, 0]), .cells D32 #[.int .i64 1, .int .i64 2, .int .i64 9, .slice (some ⟨v30g, 0, none⟩) 2 v30c] 26, .own (.slice (some ⟨v30g, 0, none⟩) 2 v30c) ([2, 4]), .own (.slice (some ⟨v27g, 0, none⟩) 4 v27c) ([1, 2, 3, 4])] [] (w35.alloc (.cells #[.int .i64 3, .int .i64 1, .int .i64 5, .slice (some ⟨v36g, 0, none⟩) 3 v36c] 26)) from (H37.out.alloc #[.int .i64 3, .int .i64 1, .int .i64 5, .slice (some ⟨v36g, 0, none⟩) 3 v36c] 26 hD38))
  first | refine gen_code H39.out ?_ | refine gen_list H39.out ?_ | refine gen_calls H39.out ?_
  intro w40 hG
  clear H39
  have H39 := hid hG
  clear hG
  clear hD38
  have H41 := hid H39.out.drew
  refine wp_region_held_drew (S := (fun w' => w'.cell? ⟨D32, 0, none⟩ = some (.int .i64 1) ∧ w'.cell? ⟨D32, 1, none⟩ = some (.int .i64 2) ∧ w'.cell? ⟨D32, 2, none⟩ = some (.int .i64 9) ∧ w'.cell? ⟨D32, 3, none⟩ = some (.slice (some ⟨v30g, 0, none⟩) 2 v30c))) (by kernel_rfl) ⟨H41.out.cell 2 rfl 0 rfl, H41.out.cell 2 rfl 1 rfl, H41.out.cell 2 rfl 2 rfl, H41.out.cell 2 rfl 3 rfl⟩ (fun hHeld => ?_)
  generalize w40.drew = k42 at *
  refine wpAnyH_take (i := 1) (oi := _) (v := ?_) rfl (by kernel_rfl) (by kernel_rfl) (by kernel_rfl) (fun _ _ _ h => h) (Or.inl ⟨by rfl, ?_⟩) (by assumption) ?_
  rotate_left
  focus (intro wS hSw; (try dsimp only at hSw); go_simp; (try with_reducible rfl))
  try simp only [Act.put, List.getElem_toArray, List.getElem_cons_zero, List.getElem_cons_succ, List.setIfInBounds_toArray, List.set_cons_zero, List.set_cons_succ]
  refine wpAnyH_ready (rs := [0, 6]) (by kernel_rfl) (by simp) (AllReadyH.cons (o := _) rfl (fun K hK => ?_) (AllReadyH.cons (o := _) rfl (fun K hK => ?_) AllReadyH.nil))
  · go_simp
    go_at_call 84
    refine (two_any _).mono ?_
    rintro e w43 ⟨v44, rfl, ho, hb⟩
    have H45 := hid (H41.out.grow hb ho)
    obtain ⟨v44g, v44c, rfl⟩ := ho.pos (by decide)
    clear ho hb
    refine hK.out _ _ ?_ (fun hHeld2 => ?_)
    focus ((try dsimp only); (exact ⟨H45.out.cell 3 rfl 0 rfl, H45.out.cell 3 rfl 1 rfl, H45.out.cell 3 rfl 2 rfl, H45.out.cell 3 rfl 3 rfl⟩))
    clear hK K
    try simp only [Act.put, List.getElem_toArray, List.getElem_cons_zero, List.getElem_cons_succ, List.setIfInBounds_toArray, List.set_cons_zero, List.set_cons_succ]
    clear hHeld
    have hHeld := hHeld2
    clear hHeld2
    refine wpAnyH_ready (rs := [2, 6]) (by kernel_rfl) (by simp) (AllReadyH.cons (o := _) rfl (fun K hK => ?_) (AllReadyH.cons (o := _) rfl (fun K hK => ?_) AllReadyH.nil))
    · go_simp
      go_at_call 50
      refine (pblit_any _ _ _ _ _ _ [1, 2, 3, 4] _ _ _ _ _ _ [2, 4] _ _ _ (H45.out.slc 0 rfl) (H45.out.slc 4 rfl)).mono ?_
      rintro e w46 ⟨v47, rfl, ho, hb⟩
      rw [show blIf 2 2 9 [1, 2, 3, 4] 1 2 9 [2, 4] 0 0 2 = 2 from by decide +kernel]
      rw [show blIf 2 2 9 [1, 2, 3, 4] 1 2 9 [2, 4] 0 0 9 = 9 from by decide +kernel]
      rw [show blOk 2 2 9 [1, 2, 3, 4] 1 2 9 [2, 4] 0 0 = true from by decide +kernel]
      rw [show blList 2 2 9 [1, 2, 3, 4] 1 2 9 [2, 4] 0 0 = [2, 2, 4, 4] from by decide +kernel] at ho
      have H48 := hid (H45.out.grow hb ho)
      obtain ⟨v47g, v47c, rfl⟩ := ho.pos (by decide)
      clear ho hb
      refine hK.out _ _ ?_ (fun hHeld2 => ?_)
      focus ((try dsimp only); (exact ⟨H48.out.cell 4 rfl 0 rfl, H48.out.cell 4 rfl 1 rfl, H48.out.cell 4 rfl 2 rfl, H48.out.cell 4 rfl 3 rfl⟩))
      clear hK K
      try simp only [Act.put, List.getElem_toArray, List.getElem_cons_zero, List.getElem_cons_succ, List.setIfInBounds_toArray, List.set_cons_zero, List.set_cons_succ]
      clear hHeld
      have hHeld := hHeld2
      clear hHeld2
      refine wpAnyH_take (i := 3) (oi := _) (v := ?_) rfl (by kernel_rfl) (by kernel_rfl) (by kernel_rfl) (fun _ _ _ h => h) (Or.inl ⟨by rfl, ?_⟩) (by assumption) ?_
      rotate_left
      focus (intro wS hSw; (try dsimp only at hSw); go_simp; (try with_reducible rfl))
      try simp only [Act.put, List.getElem_toArray, List.getElem_cons_zero, List.getElem_cons_succ, List.setIfInBounds_toArray, List.set_cons_zero, List.set_cons_succ]
      refine wpAnyH_take (i := 4) (oi := _) (v := ?_) rfl (by kernel_rfl) (by kernel_rfl) (by kernel_rfl) (fun _ _ _ h => h) (Or.inl ⟨by rfl, ?_⟩) (by assumption) ?_
      rotate_left
      focus (intro wS hSw; (try dsimp only at hSw); go_simp; (try with_reducible rfl))
      try simp only [Act.put, List.getElem_toArray, List.getElem_cons_zero, List.getElem_cons_succ, List.setIfInBounds_toArray, List.set_cons_zero, List.set_cons_succ]
      refine wpAnyH_take (i := 5) (oi := _) (v := ?_) rfl (by kernel_rfl) (by kernel_rfl) (by kernel_rfl) (fun _ _ _ h => h) (Or.inl ⟨by rfl, ?_⟩) (by assumption) ?_
      rotate_left
      focus (intro wS hSw; (try dsimp only at hSw); go_simp; (try with_reducible rfl))
      try simp only [Act.put, List.getElem_toArray, List.getElem_cons_zero, List.getElem_cons_succ, List.setIfInBounds_toArray, List.set_cons_zero, List.set_cons_succ]
      refine wpAnyH_ready (rs := [6]) (by kernel_rfl) (by simp) (AllReadyH.cons (o := _) rfl (fun K hK => ?_) AllReadyH.nil)
      obtain ⟨D49, hD49⟩ : ∃ D, w46.heap.size = D := ⟨_, rfl⟩
      have H50 := hid (show St B W [.cells D49 #[.int .i64 0, .int .i64 0, .int .i64 0, .slice none 0 0] 26, .own (.slice (some ⟨v47g, 0, none⟩) 4 v47c) ([2, 2, 4, 4]), .own (.slice (some ⟨v44g, 0, none⟩) 4 v44c) ([1, 2, 3, 4]), .cells D38 #[.int .i64 3, .int .i64 1, .int .i64 5, .slice (some ⟨v36g, 0, none⟩) 3 v36c] 26, .own (.slice (some ⟨v36g, 0, none⟩) 3 v36c) ([0, 0, 0]), .cells D32 #[.int .i64 1, .int .i64 2, .int .i64 9, .slice (some ⟨v30g, 0, none⟩) 2 v30c] 26, .own (.slice (some ⟨v30g, 0, none⟩) 2 v30c) ([2, 4]), .own (.slice (some ⟨v27g, 0, none⟩) 4 v27c) ([1, 2, 3, 4])] [] (w46.alloc (.cells #[.int .i64 0, .int .i64 0, .int .i64 0, .slice none 0 0] 26)) from (H48.out.alloc #[.int .i64 0, .int .i64 0, .int .i64 0, .slice none 0 0] 26 hD49))
      go_simp
      refine hK.out _ _ ?_ (fun hHeld2 => ?_)
      focus ((try dsimp only); (exact ⟨H50.out.cell 5 rfl 0 rfl, H50.out.cell 5 rfl 1 rfl, H50.out.cell 5 rfl 2 rfl, H50.out.cell 5 rfl 3 rfl⟩))
      clear hK K hHeld
      try simp only [Act.put, List.getElem_toArray, List.getElem_cons_zero, List.getElem_cons_succ, List.setIfInBounds_toArray, List.set_cons_zero, List.set_cons_succ]
      clear hD49
      generalize (w46.alloc (.cells #[.int .i64 0, .int .i64 0, .int .i64 0, .slice none 0 0] 26)) = k51 at *
      have hHeld := hHeld2
      clear hHeld2
      refine wpAnyH_ready (rs := [7]) (by kernel_rfl) (by simp) (AllReadyH.cons (o := _) rfl (fun K hK => ?_) AllReadyH.nil)
      have z52 := H50.out.cell 0 rfl 0 rfl
      have z53 := H50.out.free 0 rfl 0
      have z54 := H50.out.cell 0 rfl 1 rfl
      have z55 := H50.out.free 0 rfl 1
      have z56 := H50.out.cell 0 rfl 2 rfl
      have z57 := H50.out.free 0 rfl 2
      have z58 := H50.out.cell 0 rfl 3 rfl
      have z59 := H50.out.free 0 rfl 3
      have H60 := hid (show St B W [.cells D49 #[.int .i64 2, .int .i64 2, .int .i64 9, .slice (some ⟨v47g, 0, none⟩) 4 v47c] 26, .own (.slice (some ⟨v47g, 0, none⟩) 4 v47c) ([2, 2, 4, 4]), .own (.slice (some ⟨v44g, 0, none⟩) 4 v44c) ([1, 2, 3, 4]), .cells D38 #[.int .i64 3, .int .i64 1, .int .i64 5, .slice (some ⟨v36g, 0, none⟩) 3 v36c] 26, .own (.slice (some ⟨v36g, 0, none⟩) 3 v36c) ([0, 0, 0]), .cells D32 #[.int .i64 1, .int .i64 2, .int .i64 9, .slice (some ⟨v30g, 0, none⟩) 2 v30c] 26, .own (.slice (some ⟨v30g, 0, none⟩) 2 v30c) ([2, 4]), .own (.slice (some ⟨v27g, 0, none⟩) 4 v27c) ([1, 2, 3, 4])] [] ((((k51.setCell ⟨D49, 0, none⟩ (.int .i64 2)).setCell ⟨D49, 1, none⟩ (.int .i64 2)).setCell ⟨D49, 2, none⟩ (.int .i64 9)).setCell ⟨D49, 3, none⟩ (.slice (some ⟨v47g, 0, none⟩) 4 v47c)) from (H50.out.set4 0 rfl (.int .i64 2) (.int .i64 2) (.int .i64 9) (.slice (some ⟨v47g, 0, none⟩) 4 v47c)))
      go_simp
      refine hK.out _ _ ?_ (fun hHeld2 => ?_)
      focus ((try dsimp only); (exact ⟨H60.out.cell 5 rfl 0 rfl, H60.out.cell 5 rfl 1 rfl, H60.out.cell 5 rfl 2 rfl, H60.out.cell 5 rfl 3 rfl⟩))
      clear hK K hHeld
      try simp only [Act.put, List.getElem_toArray, List.getElem_cons_zero, List.getElem_cons_succ, List.setIfInBounds_toArray, List.set_cons_zero, List.set_cons_succ]
      clear z52 z53 z54 z55 z56 z57 z58 z59
      generalize ((((k51.setCell ⟨D49, 0, none⟩ (.int .i64 2)).setCell ⟨D49, 1, none⟩ (.int .i64 2)).setCell ⟨D49, 2, none⟩ (.int .i64 9)).setCell ⟨D49, 3, none⟩ (.slice (some ⟨v47g, 0, none⟩) 4 v47c)) = k61 at *
      have hHeld := hHeld2
      clear hHeld2
      refine wpAnyH_take (i := 8) (oi := _) (v := ?_) rfl (by kernel_rfl) (by kernel_rfl) (by kernel_rfl) (fun _ _ _ h => h) (Or.inl ⟨by rfl, ?_⟩) (by assumption) ?_
      rotate_left
      focus (intro wS hSw; (try dsimp only at hSw); go_simp; (try with_reducible rfl))
      try simp only [Act.put, List.getElem_toArray, List.getElem_cons_zero, List.getElem_cons_succ, List.setIfInBounds_toArray, List.set_cons_zero, List.set_cons_succ]
      refine wpAnyH_done (by kernel_rfl) ?_ _
      try clear hHeld
      have g1 := (H60.out.get 6 rfl (j := 1) (by decide)).1
      have g2 := (H60.out.get 1 rfl (j := 0) (by decide)).1
      simp only [List.getD_cons_succ, List.getD_cons_zero] at g1 g2
      have z62 := H60.out.cell 5 rfl 0 rfl
      have z63 := H60.out.cell 5 rfl 1 rfl
      have z64 := H60.out.cell 5 rfl 2 rfl
      have z65 := H60.out.cell 5 rfl 3 rfl
      have z66 := H60.out.cell 3 rfl 0 rfl
      have z67 := H60.out.cell 3 rfl 1 rfl
      have z68 := H60.out.cell 3 rfl 2 rfl
      have z69 := H60.out.cell 3 rfl 3 rfl
      have z70 := H60.out.cell 0 rfl 0 rfl
      have z71 := H60.out.cell 0 rfl 1 rfl
      have z72 := H60.out.cell 0 rfl 2 rfl
      have z73 := H60.out.cell 0 rfl 3 rfl
      go_wp2_with fail
      clear z62 z63 z64 z65 z66 z67 z68 z69 z70 z71 z72 z73
      refine (two_any _).mono ?_
      rintro e w74 ⟨v75, rfl, ho, hb⟩
      have H76 := hid (H60.out.grow hb ho)
      obtain ⟨v75g, v75c, rfl⟩ := ho.pos (by decide)
      clear ho hb
      go_wp2_with fail
      refine (pat_any _ _ _ _ _ _ [1, 2, 3, 4] _ _ _ _ _ (H76.out.slc 0 rfl)).mono ?_
      rintro e w77 ⟨rfl, hb⟩
      have H78 := hid (H76.out.call hb)
      clear hb
      rw [show pAt 2 2 9 [1, 2, 3, 4] 1 0 (-1) 5 = 3 from by decide +kernel]
      go_wp2_with fail
      refine (two_any _).mono ?_
      rintro e w79 ⟨v80, rfl, ho, hb⟩
      have H81 := hid (H78.out.grow hb ho)
      obtain ⟨v80g, v80c, rfl⟩ := ho.pos (by decide)
      clear ho hb
      go_wp2_with fail
      refine (pvalid_any _ _ _ _ _ _ [1, 2, 3, 4] _ (by have := (H81.out.slc 0 rfl).nc; have := (H81.out.slc 0 rfl).cap; omega) (H81.out.slc 0 rfl).row).mono ?_
      rintro e w82 ⟨rfl, hb⟩
      have H83 := hid (H81.out.call hb)
      clear hb
      rw [show pValid 2 2 9 [1, 2, 3, 4] = true from by decide +kernel]
      go_wp2_with fail
      refine (two_any _).mono ?_
      rintro e w84 ⟨v85, rfl, ho, hb⟩
      have H86 := hid (H83.out.grow hb ho)
      obtain ⟨v85g, v85c, rfl⟩ := ho.pos (by decide)
      clear ho hb
      go_wp2_with fail
      refine (two_any _).mono ?_
      rintro e w87 ⟨v88, rfl, ho, hb⟩
      have H89 := hid (H86.out.grow hb ho)
      obtain ⟨v88g, v88c, rfl⟩ := ho.pos (by decide)
      clear ho hb
      go_wp2_with fail
      refine (pequal_any _ _ _ _ _ _ [1, 2, 3, 4] _ _ _ _ _ _ [1, 2, 3, 4] _ (H89.out.slc 1 rfl) (H89.out.slc 0 rfl)).mono ?_
      rintro e w90 ⟨rfl, hb⟩
      have H91 := hid (H89.out.call hb)
      clear hb
      rw [show pEq 2 2 9 [1, 2, 3, 4] 2 2 9 [1, 2, 3, 4] = true from by decide +kernel]
      go_wp2_with fail
      go_ret
      exact ⟨rfl, by first | exact H91.out.below | exact H91.out.below'⟩
    · obtain ⟨D92, hD92⟩ : ∃ D, w43.heap.size = D := ⟨_, rfl⟩
      have H93 := hid (show St B W [.cells D92 #[.int .i64 0, .int .i64 0, .int .i64 0, .slice none 0 0] 26, .own (.slice (some ⟨v44g, 0, none⟩) 4 v44c) ([1, 2, 3, 4]), .cells D38 #[.int .i64 3, .int .i64 1, .int .i64 5, .slice (some ⟨v36g, 0, none⟩) 3 v36c] 26, .own (.slice (some ⟨v36g, 0, none⟩) 3 v36c) ([0, 0, 0]), .cells D32 #[.int .i64 1, .int .i64 2, .int .i64 9, .slice (some ⟨v30g, 0, none⟩) 2 v30c] 26, .own (.slice (some ⟨v30g, 0, none⟩) 2 v30c) ([2, 4]), .own (.slice (some ⟨v27g, 0, none⟩) 4 v27c) ([1, 2, 3, 4])] [] (w43.alloc (.cells #[.int .i64 0, .int .i64 0, .int .i64 0, .slice none 0 0] 26)) from (H45.out.alloc #[.int .i64 0, .int .i64 0, .int .i64 0, .slice none 0 0] 26 hD92))
      go_simp
      refine hK.out _ _ ?_ (fun hHeld2 => ?_)
      focus ((try dsimp only); (exact ⟨H93.out.cell 4 rfl 0 rfl, H93.out.cell 4 rfl 1 rfl, H93.out.cell 4 rfl 2 rfl, H93.out.cell 4 rfl 3 rfl⟩))
      clear hK K hHeld
      try simp only [Act.put, List.getElem_toArray, List.getElem_cons_zero, List.getElem_cons_succ, List.setIfInBounds_toArray, List.set_cons_zero, List.set_cons_succ]
      clear hD92
      generalize (w43.alloc (.cells #[.int .i64 0, .int .i64 0, .int .i64 0, .slice none 0 0] 26)) = k94 at *
      have hHeld := hHeld2
      clear hHeld2
      refine wpAnyH_ready (rs := [2]) (by kernel_rfl) (by simp) (AllReadyH.cons (o := _) rfl (fun K hK => ?_) AllReadyH.nil)
      go_simp
      go_at_call 50
      refine (pblit_any _ _ _ _ _ _ [1, 2, 3, 4] _ _ _ _ _ _ [2, 4] _ _ _ (H93.out.slc 1 rfl) (H93.out.slc 5 rfl)).mono ?_
      rintro e w95 ⟨v96, rfl, ho, hb⟩
      rw [show blIf 2 2 9 [1, 2, 3, 4] 1 2 9 [2, 4] 0 0 2 = 2 from by decide +kernel]
      rw [show blIf 2 2 9 [1, 2, 3, 4] 1 2 9 [2, 4] 0 0 9 = 9 from by decide +kernel]
      rw [show blOk 2 2 9 [1, 2, 3, 4] 1 2 9 [2, 4] 0 0 = true from by decide +kernel]
      rw [show blList 2 2 9 [1, 2, 3, 4] 1 2 9 [2, 4] 0 0 = [2, 2, 4, 4] from by decide +kernel] at ho
      have H97 := hid (H93.out.grow hb ho)
      obtain ⟨v96g, v96c, rfl⟩ := ho.pos (by decide)
      clear ho hb
      refine hK.out _ _ ?_ (fun hHeld2 => ?_)
      focus ((try dsimp only); (exact ⟨H97.out.cell 5 rfl 0 rfl, H97.out.cell 5 rfl 1 rfl, H97.out.cell 5 rfl 2 rfl, H97.out.cell 5 rfl 3 rfl⟩))
      clear hK K
      try simp only [Act.put, List.getElem_toArray, List.getElem_cons_zero, List.getElem_cons_succ, List.setIfInBounds_toArray, List.set_cons_zero, List.set_cons_succ]
      clear hHeld
      have hHeld := hHeld2
      clear hHeld2
      refine wpAnyH_take (i := 3) (oi := _) (v := ?_) rfl (by kernel_rfl) (by kernel_rfl) (by kernel_rfl) (fun _ _ _ h => h) (Or.inl ⟨by rfl, ?_⟩) (by assumption) ?_
      rotate_left
      focus (intro wS hSw; (try dsimp only at hSw); go_simp; (try with_reducible rfl))
      try simp only [Act.put, List.getElem_toArray, List.getElem_cons_zero, List.getElem_cons_succ, List.setIfInBounds_toArray, List.set_cons_zero, List.set_cons_succ]
      refine wpAnyH_take (i := 4) (oi := _) (v := ?_) rfl (by kernel_rfl) (by kernel_rfl) (by kernel_rfl) (fun _ _ _ h => h) (Or.inl ⟨by rfl, ?_⟩) (by assumption) ?_
      rotate_left
      focus (intro wS hSw; (try dsimp only at hSw); go_simp; (try with_reducible rfl))
      try simp only [Act.put, List.getElem_toArray, List.getElem_cons_zero, List.getElem_cons_succ, List.setIfInBounds_toArray, List.set_cons_zero, List.set_cons_succ]
      refine wpAnyH_take (i := 5) (oi := _) (v := ?_) rfl (by kernel_rfl) (by kernel_rfl) (by kernel_rfl) (fun _ _ _ h => h) (Or.inl ⟨by rfl, ?_⟩) (by assumption) ?_
      rotate_left
      focus (intro wS hSw; (try dsimp only at hSw); go_simp; (try with_reducible rfl))
      try simp only [Act.put, List.getElem_toArray, List.getElem_cons_zero, List.getElem_cons_succ, List.setIfInBounds_toArray, List.set_cons_zero, List.set_cons_succ]
      refine wpAnyH_ready (rs := [7]) (by kernel_rfl) (by simp) (AllReadyH.cons (o := _) rfl (fun K hK => ?_) AllReadyH.nil)
      have z98 := H97.out.cell 1 rfl 0 rfl
      have z99 := H97.out.free 1 rfl 0
      have z100 := H97.out.cell 1 rfl 1 rfl
      have z101 := H97.out.free 1 rfl 1
      have z102 := H97.out.cell 1 rfl 2 rfl
      have z103 := H97.out.free 1 rfl 2
      have z104 := H97.out.cell 1 rfl 3 rfl
      have z105 := H97.out.free 1 rfl 3
      have H106 := hid (show St B W [.own (.slice (some ⟨v96g, 0, none⟩) 4 v96c) ([2, 2, 4, 4]), .cells D92 #[.int .i64 2, .int .i64 2, .int .i64 9, .slice (some ⟨v96g, 0, none⟩) 4 v96c] 26, .own (.slice (some ⟨v44g, 0, none⟩) 4 v44c) ([1, 2, 3, 4]), .cells D38 #[.int .i64 3, .int .i64 1, .int .i64 5, .slice (some ⟨v36g, 0, none⟩) 3 v36c] 26, .own (.slice (some ⟨v36g, 0, none⟩) 3 v36c) ([0, 0, 0]), .cells D32 #[.int .i64 1, .int .i64 2, .int .i64 9, .slice (some ⟨v30g, 0, none⟩) 2 v30c] 26, .own (.slice (some ⟨v30g, 0, none⟩) 2 v30c) ([2, 4]), .own (.slice (some ⟨v27g, 0, none⟩) 4 v27c) ([1, 2, 3, 4])] [] ((((w95.setCell ⟨D92, 0, none⟩ (.int .i64 2)).setCell ⟨D92, 1, none⟩ (.int .i64 2)).setCell ⟨D92, 2, none⟩ (.int .i64 9)).setCell ⟨D92, 3, none⟩ (.slice (some ⟨v96g, 0, none⟩) 4 v96c)) from (H97.out.set4 1 rfl (.int .i64 2) (.int .i64 2) (.int .i64 9) (.slice (some ⟨v96g, 0, none⟩) 4 v96c)))
      go_simp
      refine hK.out _ _ ?_ (fun hHeld2 => ?_)
      focus ((try dsimp only); (exact ⟨H106.out.cell 5 rfl 0 rfl, H106.out.cell 5 rfl 1 rfl, H106.out.cell 5 rfl 2 rfl, H106.out.cell 5 rfl 3 rfl⟩))
      clear hK K hHeld
      try simp only [Act.put, List.getElem_toArray, List.getElem_cons_zero, List.getElem_cons_succ, List.setIfInBounds_toArray, List.set_cons_zero, List.set_cons_succ]
      clear z98 z99 z100 z101 z102 z103 z104 z105
      generalize ((((w95.setCell ⟨D92, 0, none⟩ (.int .i64 2)).setCell ⟨D92, 1, none⟩ (.int .i64 2)).setCell ⟨D92, 2, none⟩ (.int .i64 9)).setCell ⟨D92, 3, none⟩ (.slice (some ⟨v96g, 0, none⟩) 4 v96c)) = k107 at *
      have hHeld := hHeld2
      clear hHeld2
      refine wpAnyH_take (i := 8) (oi := _) (v := ?_) rfl (by kernel_rfl) (by kernel_rfl) (by kernel_rfl) (fun _ _ _ h => h) (Or.inl ⟨by rfl, ?_⟩) (by assumption) ?_
      rotate_left
      focus (intro wS hSw; (try dsimp only at hSw); go_simp; (try with_reducible rfl))
      try simp only [Act.put, List.getElem_toArray, List.getElem_cons_zero, List.getElem_cons_succ, List.setIfInBounds_toArray, List.set_cons_zero, List.set_cons_succ]
      refine wpAnyH_done (by kernel_rfl) ?_ _
      try clear hHeld
      have g1 := (H106.out.get 6 rfl (j := 1) (by decide)).1
      have g2 := (H106.out.get 0 rfl (j := 0) (by decide)).1
      simp only [List.getD_cons_succ, List.getD_cons_zero] at g1 g2
      have z108 := H106.out.cell 5 rfl 0 rfl
      have z109 := H106.out.cell 5 rfl 1 rfl
      have z110 := H106.out.cell 5 rfl 2 rfl
      have z111 := H106.out.cell 5 rfl 3 rfl
      have z112 := H106.out.cell 3 rfl 0 rfl
      have z113 := H106.out.cell 3 rfl 1 rfl
      have z114 := H106.out.cell 3 rfl 2 rfl
      have z115 := H106.out.cell 3 rfl 3 rfl
      have z116 := H106.out.cell 1 rfl 0 rfl
      have z117 := H106.out.cell 1 rfl 1 rfl
      have z118 := H106.out.cell 1 rfl 2 rfl
      have z119 := H106.out.cell 1 rfl 3 rfl
      go_wp2_with fail
      clear z108 z109 z110 z111 z112 z113 z114 z115 z116 z117 z118 z119
      refine (two_any _).mono ?_
      rintro e w120 ⟨v121, rfl, ho, hb⟩
      have H122 := hid (H106.out.grow hb ho)
      obtain ⟨v121g, v121c, rfl⟩ := ho.pos (by decide)
      clear ho hb
      go_wp2_with fail
      refine (pat_any _ _ _ _ _ _ [1, 2, 3, 4] _ _ _ _ _ (H122.out.slc 0 rfl)).mono ?_
      rintro e w123 ⟨rfl, hb⟩
      have H124 := hid (H122.out.call hb)
      clear hb
      rw [show pAt 2 2 9 [1, 2, 3, 4] 1 0 (-1) 5 = 3 from by decide +kernel]
      go_wp2_with fail
      refine (two_any _).mono ?_
      rintro e w125 ⟨v126, rfl, ho, hb⟩
      have H127 := hid (H124.out.grow hb ho)
      obtain ⟨v126g, v126c, rfl⟩ := ho.pos (by decide)
      clear ho hb
      go_wp2_with fail
      refine (pvalid_any _ _ _ _ _ _ [1, 2, 3, 4] _ (by have := (H127.out.slc 0 rfl).nc; have := (H127.out.slc 0 rfl).cap; omega) (H127.out.slc 0 rfl).row).mono ?_
      rintro e w128 ⟨rfl, hb⟩
      have H129 := hid (H127.out.call hb)
      clear hb
      rw [show pValid 2 2 9 [1, 2, 3, 4] = true from by decide +kernel]
      go_wp2_with fail
      refine (two_any _).mono ?_
      rintro e w130 ⟨v131, rfl, ho, hb⟩
      have H132 := hid (H129.out.grow hb ho)
      obtain ⟨v131g, v131c, rfl⟩ := ho.pos (by decide)
      clear ho hb
      go_wp2_with fail
      refine (two_any _).mono ?_
      rintro e w133 ⟨v134, rfl, ho, hb⟩
      have H135 := hid (H132.out.grow hb ho)
      obtain ⟨v134g, v134c, rfl⟩ := ho.pos (by decide)
      clear ho hb
      go_wp2_with fail
      refine (pequal_any _ _ _ _ _ _ [1, 2, 3, 4] _ _ _ _ _ _ [1, 2, 3, 4] _ (H135.out.slc 1 rfl) (H135.out.slc 0 rfl)).mono ?_
      rintro e w136 ⟨rfl, hb⟩
      have H137 := hid (H135.out.call hb)
      clear hb
      rw [show pEq 2 2 9 [1, 2, 3, 4] 2 2 9 [1, 2, 3, 4] = true from by decide +kernel]
      go_wp2_with fail
      go_ret
      exact ⟨rfl, by first | exact H137.out.below | exact H137.out.below'⟩
  · obtain ⟨D138, hD138⟩ : ∃ D, k42.heap.size = D := ⟨_, rfl⟩
    have H139 := hid (show St B W [.cells D138 #[.int .i64 0, .int .i64 0, .int .i64 0, .slice none 0 0] 26, .cells D38 #[.int .i64 3, .int .i64 1, .int .i64 5, .slice (some ⟨v36g, 0, none⟩) 3 v36c] 26, .own (.slice (some ⟨v36g, 0, none⟩) 3 v36c) ([0, 0, 0]), .cells D32 #[.int .i64 1, .int .i64 2, .int .i64 9, .slice (some ⟨v30g, 0, none⟩) 2 v30c] 26, .own (.slice (some ⟨v30g, 0, none⟩) 2 v30c) ([2, 4]), .own (.slice (some ⟨v27g, 0, none⟩) 4 v27c) ([1, 2, 3, 4])] [] (k42.alloc (.cells #[.int .i64 0, .int .i64 0, .int .i64 0, .slice none 0 0] 26)) from (H41.out.alloc #[.int .i64 0, .int .i64 0, .int .i64 0, .slice none 0 0] 26 hD138))
    go_simp
    refine hK.out _ _ ?_ (fun hHeld2 => ?_)
    focus ((try dsimp only); (exact ⟨H139.out.cell 3 rfl 0 rfl, H139.out.cell 3 rfl 1 rfl, H139.out.cell 3 rfl 2 rfl, H139.out.cell 3 rfl 3 rfl⟩))
    clear hK K hHeld
    try simp only [Act.put, List.getElem_toArray, List.getElem_cons_zero, List.getElem_cons_succ, List.setIfInBounds_toArray, List.set_cons_zero, List.set_cons_succ]
    clear hD138
    generalize (k42.alloc (.cells #[.int .i64 0, .int .i64 0, .int .i64 0, .slice none 0 0] 26)) = k140 at *
    have hHeld := hHeld2
    clear hHeld2
    refine wpAnyH_ready (rs := [0]) (by kernel_rfl) (by simp) (AllReadyH.cons (o := _) rfl (fun K hK => ?_) AllReadyH.nil)
    go_simp
    go_at_call 84
    refine (two_any _).mono ?_
    rintro e w141 ⟨v142, rfl, ho, hb⟩
    have H143 := hid (H139.out.grow hb ho)
    obtain ⟨v142g, v142c, rfl⟩ := ho.pos (by decide)
    clear ho hb
    refine hK.out _ _ ?_ (fun hHeld2 => ?_)
    focus ((try dsimp only); (exact ⟨H143.out.cell 4 rfl 0 rfl, H143.out.cell 4 rfl 1 rfl, H143.out.cell 4 rfl 2 rfl, H143.out.cell 4 rfl 3 rfl⟩))
    clear hK K
    try simp only [Act.put, List.getElem_toArray, List.getElem_cons_zero, List.getElem_cons_succ, List.setIfInBounds_toArray, List.set_cons_zero, List.set_cons_succ]
    clear hHeld
    have hHeld := hHeld2
    clear hHeld2
    refine wpAnyH_ready (rs := [2]) (by kernel_rfl) (by simp) (AllReadyH.cons (o := _) rfl (fun K hK => ?_) AllReadyH.nil)
    go_simp
    go_at_call 50
    refine (pblit_any _ _ _ _ _ _ [1, 2, 3, 4] _ _ _ _ _ _ [2, 4] _ _ _ (H143.out.slc 0 rfl) (H143.out.slc 5 rfl)).mono ?_
    rintro e w144 ⟨v145, rfl, ho, hb⟩
    rw [show blIf 2 2 9 [1, 2, 3, 4] 1 2 9 [2, 4] 0 0 2 = 2 from by decide +kernel]
    rw [show blIf 2 2 9 [1, 2, 3, 4] 1 2 9 [2, 4] 0 0 9 = 9 from by decide +kernel]
    rw [show blOk 2 2 9 [1, 2, 3, 4] 1 2 9 [2, 4] 0 0 = true from by decide +kernel]
    rw [show blList 2 2 9 [1, 2, 3, 4] 1 2 9 [2, 4] 0 0 = [2, 2, 4, 4] from by decide +kernel] at ho
    have H146 := hid (H143.out.grow hb ho)
    obtain ⟨v145g, v145c, rfl⟩ := ho.pos (by decide)
    clear ho hb
    refine hK.out _ _ ?_ (fun hHeld2 => ?_)
    focus ((try dsimp only); (exact ⟨H146.out.cell 5 rfl 0 rfl, H146.out.cell 5 rfl 1 rfl, H146.out.cell 5 rfl 2 rfl, H146.out.cell 5 rfl 3 rfl⟩))
    clear hK K
    try simp only [Act.put, List.getElem_toArray, List.getElem_cons_zero, List.getElem_cons_succ, List.setIfInBounds_toArray, List.set_cons_zero, List.set_cons_succ]
    clear hHeld
    have hHeld := hHeld2
    clear hHeld2
    refine wpAnyH_take (i := 3) (oi := _) (v := ?_) rfl (by kernel_rfl) (by kernel_rfl) (by kernel_rfl) (fun _ _ _ h => h) (Or.inl ⟨by rfl, ?_⟩) (by assumption) ?_
    rotate_left
    focus (intro wS hSw; (try dsimp only at hSw); go_simp; (try with_reducible rfl))
    try simp only [Act.put, List.getElem_toArray, List.getElem_cons_zero, List.getElem_cons_succ, List.setIfInBounds_toArray, List.set_cons_zero, List.set_cons_succ]
    refine wpAnyH_take (i := 4) (oi := _) (v := ?_) rfl (by kernel_rfl) (by kernel_rfl) (by kernel_rfl) (fun _ _ _ h => h) (Or.inl ⟨by rfl, ?_⟩) (by assumption) ?_
    rotate_left
    focus (intro wS hSw; (try dsimp only at hSw); go_simp; (try with_reducible rfl))
    try simp only [Act.put, List.getElem_toArray, List.getElem_cons_zero, List.getElem_cons_succ, List.setIfInBounds_toArray, List.set_cons_zero, List.set_cons_succ]
    refine wpAnyH_take (i := 5) (oi := _) (v := ?_) rfl (by kernel_rfl) (by kernel_rfl) (by kernel_rfl) (fun _ _ _ h => h) (Or.inl ⟨by rfl, ?_⟩) (by assumption) ?_
    rotate_left
    focus (intro wS hSw; (try dsimp only at hSw); go_simp; (try with_reducible rfl))
    try simp only [Act.put, List.getElem_toArray, List.getElem_cons_zero, List.getElem_cons_succ, List.setIfInBounds_toArray, List.set_cons_zero, List.set_cons_succ]
    refine wpAnyH_ready (rs := [7]) (by kernel_rfl) (by simp) (AllReadyH.cons (o := _) rfl (fun K hK => ?_) AllReadyH.nil)
    have z147 := H146.out.cell 2 rfl 0 rfl
    have z148 := H146.out.free 2 rfl 0
    have z149 := H146.out.cell 2 rfl 1 rfl
    have z150 := H146.out.free 2 rfl 1
    have z151 := H146.out.cell 2 rfl 2 rfl
    have z152 := H146.out.free 2 rfl 2
    have z153 := H146.out.cell 2 rfl 3 rfl
    have z154 := H146.out.free 2 rfl 3
    have H155 := hid (show St B W [.own (.slice (some ⟨v145g, 0, none⟩) 4 v145c) ([2, 2, 4, 4]), .own (.slice (some ⟨v142g, 0, none⟩) 4 v142c) ([1, 2, 3, 4]), .cells D138 #[.int .i64 2, .int .i64 2, .int .i64 9, .slice (some ⟨v145g, 0, none⟩) 4 v145c] 26, .cells D38 #[.int .i64 3, .int .i64 1, .int .i64 5, .slice (some ⟨v36g, 0, none⟩) 3 v36c] 26, .own (.slice (some ⟨v36g, 0, none⟩) 3 v36c) ([0, 0, 0]), .cells D32 #[.int .i64 1, .int .i64 2, .int .i64 9, .slice (some ⟨v30g, 0, none⟩) 2 v30c] 26, .own (.slice (some ⟨v30g, 0, none⟩) 2 v30c) ([2, 4]), .own (.slice (some ⟨v27g, 0, none⟩) 4 v27c) ([1, 2, 3, 4])] [] ((((w144.setCell ⟨D138, 0, none⟩ (.int .i64 2)).setCell ⟨D138, 1, none⟩ (.int .i64 2)).setCell ⟨D138, 2, none⟩ (.int .i64 9)).setCell ⟨D138, 3, none⟩ (.slice (some ⟨v145g, 0, none⟩) 4 v145c)) from (H146.out.set4 2 rfl (.int .i64 2) (.int .i64 2) (.int .i64 9) (.slice (some ⟨v145g, 0, none⟩) 4 v145c)))
    go_simp
    refine hK.out _ _ ?_ (fun hHeld2 => ?_)
    focus ((try dsimp only); (exact ⟨H155.out.cell 5 rfl 0 rfl, H155.out.cell 5 rfl 1 rfl, H155.out.cell 5 rfl 2 rfl, H155.out.cell 5 rfl 3 rfl⟩))
    clear hK K hHeld
    try simp only [Act.put, List.getElem_toArray, List.getElem_cons_zero, List.getElem_cons_succ, List.setIfInBounds_toArray, List.set_cons_zero, List.set_cons_succ]
    clear z147 z148 z149 z150 z151 z152 z153 z154
    generalize ((((w144.setCell ⟨D138, 0, none⟩ (.int .i64 2)).setCell ⟨D138, 1, none⟩ (.int .i64 2)).setCell ⟨D138, 2, none⟩ (.int .i64 9)).setCell ⟨D138, 3, none⟩ (.slice (some ⟨v145g, 0, none⟩) 4 v145c)) = k156 at *
    have hHeld := hHeld2
    clear hHeld2
    refine wpAnyH_take (i := 8) (oi := _) (v := ?_) rfl (by kernel_rfl) (by kernel_rfl) (by kernel_rfl) (fun _ _ _ h => h) (Or.inl ⟨by rfl, ?_⟩) (by assumption) ?_
    rotate_left
    focus (intro wS hSw; (try dsimp only at hSw); go_simp; (try with_reducible rfl))
    try simp only [Act.put, List.getElem_toArray, List.getElem_cons_zero, List.getElem_cons_succ, List.setIfInBounds_toArray, List.set_cons_zero, List.set_cons_succ]
    refine wpAnyH_done (by kernel_rfl) ?_ _
    try clear hHeld
    have g1 := (H155.out.get 6 rfl (j := 1) (by decide)).1
    have g2 := (H155.out.get 0 rfl (j := 0) (by decide)).1
    simp only [List.getD_cons_succ, List.getD_cons_zero] at g1 g2
    have z157 := H155.out.cell 5 rfl 0 rfl
    have z158 := H155.out.cell 5 rfl 1 rfl
    have z159 := H155.out.cell 5 rfl 2 rfl
    have z160 := H155.out.cell 5 rfl 3 rfl
    have z161 := H155.out.cell 3 rfl 0 rfl
    have z162 := H155.out.cell 3 rfl 1 rfl
    have z163 := H155.out.cell 3 rfl 2 rfl
    have z164 := H155.out.cell 3 rfl 3 rfl
    have z165 := H155.out.cell 2 rfl 0 rfl
    have z166 := H155.out.cell 2 rfl 1 rfl
    have z167 := H155.out.cell 2 rfl 2 rfl
    have z168 := H155.out.cell 2 rfl 3 rfl
    go_wp2_with fail
    clear z157 z158 z159 z160 z161 z162 z163 z164 z165 z166 z167 z168
    refine (two_any _).mono ?_
    rintro e w169 ⟨v170, rfl, ho, hb⟩
    have H171 := hid (H155.out.grow hb ho)
    obtain ⟨v170g, v170c, rfl⟩ := ho.pos (by decide)
    clear ho hb
    go_wp2_with fail
    refine (pat_any _ _ _ _ _ _ [1, 2, 3, 4] _ _ _ _ _ (H171.out.slc 0 rfl)).mono ?_
    rintro e w172 ⟨rfl, hb⟩
    have H173 := hid (H171.out.call hb)
    clear hb
    rw [show pAt 2 2 9 [1, 2, 3, 4] 1 0 (-1) 5 = 3 from by decide +kernel]
    go_wp2_with fail
    refine (two_any _).mono ?_
    rintro e w174 ⟨v175, rfl, ho, hb⟩
    have H176 := hid (H173.out.grow hb ho)
    obtain ⟨v175g, v175c, rfl⟩ := ho.pos (by decide)
    clear ho hb
    go_wp2_with fail
    refine (pvalid_any _ _ _ _ _ _ [1, 2, 3, 4] _ (by have := (H176.out.slc 0 rfl).nc; have := (H176.out.slc 0 rfl).cap; omega) (H176.out.slc 0 rfl).row).mono ?_
    rintro e w177 ⟨rfl, hb⟩
    have H178 := hid (H176.out.call hb)
    clear hb
    rw [show pValid 2 2 9 [1, 2, 3, 4] = true from by decide +kernel]
    go_wp2_with fail
    refine (two_any _).mono ?_
    rintro e w179 ⟨v180, rfl, ho, hb⟩
    have H181 := hid (H178.out.grow hb ho)
    obtain ⟨v180g, v180c, rfl⟩ := ho.pos (by decide)
    clear ho hb
    go_wp2_with fail
    refine (two_any _).mono ?_
    rintro e w182 ⟨v183, rfl, ho, hb⟩
    have H184 := hid (H181.out.grow hb ho)
    obtain ⟨v183g, v183c, rfl⟩ := ho.pos (by decide)
    clear ho hb
    go_wp2_with fail
    refine (pequal_any _ _ _ _ _ _ [1, 2, 3, 4] _ _ _ _ _ _ [1, 2, 3, 4] _ (H184.out.slc 1 rfl) (H184.out.slc 0 rfl)).mono ?_
    rintro e w185 ⟨rfl, hb⟩
    have H186 := hid (H184.out.call hb)
    clear hb
    rw [show pEq 2 2 9 [1, 2, 3, 4] 2 2 9 [1, 2, 3, 4] = true from by decide +kernel]
    go_wp2_with fail
    go_ret
    exact ⟨rfl, by first | exact H186.out.below | exact H186.out.below'⟩
end Go.Proofs.Ytoojiabdgaflgaa
