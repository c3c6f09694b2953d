/-
  Contract: rectangles that the tape makes.
-/
import Derived.Test.YtlidacfokgdlgaaKE
namespace Go.Proofs.Ytlidacfokgdlgaa
open Go.RowKit
attribute [local go_sem ↓] Go.wp_at_zero Go.wp_at_succ
set_option linter.unusedVariables false
set_option linter.unusedSimpArgs false

def RectBPost (B0 k : Nat) (W : World) (e : Ending) (w' : World) : Prop := ∃ r0 r1 r2 r3 : Int, e = .returned (.agg #[.int .i64 r0, .int .i64 r1, .int .i64 r2, .int .i64 r3]) ∧ TapeB B0 w' k ∧ W.grownBy w' (some k)
set_option maxRecDepth 100000 in
set_option maxHeartbeats 6400000 in
theorem rectB_any (B0 k : Nat) (W : World) (ht : TapeB B0 W k) :
    Calls Try.prog 10 #[.pointer (some ⟨k, 0, none⟩)] W (RectBPost B0 k W) := by
  obtain ⟨B, hB⟩ : ∃ B, W.heap.size = B := ⟨_, rfl⟩
  have HI0 := hid (Tk.init ht hB)
  clear ht
  go_enter Try.func10, Try.ntmps10
  go_upto_region 1 with fail
  have H1 := hid (show Tk B0 k B W [.cells B #[.int .i64 0, .int .i64 0, .int .i64 0, .int .i64 0] 24] (W.alloc (.cells #[.int .i64 0, .int .i64 0, .int .i64 0, .int .i64 0] 24)) from (HI0.out.alloc #[.int .i64 0, .int .i64 0, .int .i64 0, .int .i64 0] 24 hB))
  first | refine gen_tcode H1.out ?_ | refine gen_tlist H1.out ?_ | refine gen_tcalls H1.out ?_
  intro w2 hG
  clear H1
  have H1 := hid hG
  clear hG
  go_wp2_with fail
  refine (nextB_any B0 k _ _ (by omega) (H1.out.tape)).mono ?_
  rintro e w4 ⟨x3, rfl, x3a, x3b, htn, hgn, hsn⟩
  have H5 := hid (H1.out.next htn hgn)
  clear htn hgn hsn
  go_wp2_with fail
  refine (nextB_any B0 k _ _ (by omega) (H5.out.tape)).mono ?_
  rintro e w7 ⟨x6, rfl, x6a, x6b, htn, hgn, hsn⟩
  have H8 := hid (H5.out.next htn hgn)
  clear htn hgn hsn
  obtain ⟨D9, hD9⟩ : ∃ D, w7.heap.size = D := ⟨_, rfl⟩
  go_upto_region 2 with fail
  have H10 := hid (show Tk B0 k B W [.cells D9 #[.int .i64 (x3 - 2), .int .i64 (x6 - 2), .int .i64 0, .int .i64 0] 24, .cells B #[.int .i64 0, .int .i64 0, .int .i64 0, .int .i64 0] 24] (w7.alloc (.cells #[.int .i64 (x3 - 2), .int .i64 (x6 - 2), .int .i64 0, .int .i64 0] 24)) from (H8.out.alloc #[.int .i64 (x3 - 2), .int .i64 (x6 - 2), .int .i64 0, .int .i64 0] 24 hD9))
  first | refine gen_tcode H10.out ?_ | refine gen_tlist H10.out ?_ | refine gen_tcalls H10.out ?_
  intro w11 hG
  clear H10
  have H10 := hid hG
  clear hG
  clear hD9
  obtain ⟨X0, hX0⟩ : ∃ z, x3 - 2 = z := ⟨_, rfl⟩
  rw [hX0] at H10
  obtain ⟨X0a, X0b⟩ : -2 ≤ X0 ∧ X0 ≤ 6 := by omega
  have wX0 : IntKind.i64.wrap (X0 + 1) = X0 + 1 := IntWalk.i64_in _ (by omega)
  obtain ⟨Y0, hY0⟩ : ∃ z, x6 - 2 = z := ⟨_, rfl⟩
  rw [hY0] at H10
  obtain ⟨Y0a, Y0b⟩ : -2 ≤ Y0 ∧ Y0 ≤ 6 := by omega
  have wY0 : IntKind.i64.wrap (Y0 + 1) = Y0 + 1 := IntWalk.i64_in _ (by omega)
  clear hX0 hY0
  go_upto_region 2 with fail
  have H12 := hid H10.out.drew
  refine wp_region_held_drew (S := (fun w' => w'.cell? ⟨D9, 0, none⟩ = some (.int .i64 X0) ∧ w'.cell? ⟨D9, 1, none⟩ = some (.int .i64 Y0))) (by kernel_rfl) ⟨H12.out.cell 0 rfl 0 rfl, H12.out.cell 0 rfl 1 rfl⟩ (fun hHeld => ?_)
  generalize w11.drew = k13 at *
  refine wpAnyH_take (i := 0) (oi := _) (v := ?_) rfl (by kernel_rfl) (by kernel_rfl) (by kernel_rfl) (fun _ _ _ h => h) (Or.inl ⟨by rfl, ?_⟩) (by assumption) ?_
  rotate_left
  focus (intro wS hSw; (try dsimp only at hSw); go_simp; (try with_reducible rfl))
  try simp only [Act.put, List.getElem_toArray, List.getElem_cons_zero, List.getElem_cons_succ, List.setIfInBounds_toArray, List.set_cons_zero, List.set_cons_succ]
  refine wpAnyH_take (i := 1) (oi := _) (v := ?_) rfl (by kernel_rfl) (by kernel_rfl) (by kernel_rfl) (fun _ _ _ h => h) (Or.inl ⟨by rfl, ?_⟩) (by assumption) ?_
  rotate_left
  focus (intro wS hSw; (try dsimp only at hSw); go_simp; (try with_reducible rfl))
  try simp only [Act.put, List.getElem_toArray, List.getElem_cons_zero, List.getElem_cons_succ, List.setIfInBounds_toArray, List.set_cons_zero, List.set_cons_succ]
  refine wpAnyH_take (i := 2) (oi := _) (v := ?_) rfl (by kernel_rfl) (by kernel_rfl) (by kernel_rfl) (fun _ _ _ h => h) (Or.inl ⟨by rfl, ?_⟩) (by assumption) ?_
  rotate_left
  focus (intro wS hSw; (try dsimp only at hSw); go_simp; (try with_reducible rfl))
  try simp only [Act.put, List.getElem_toArray, List.getElem_cons_zero, List.getElem_cons_succ, List.setIfInBounds_toArray, List.set_cons_zero, List.set_cons_succ]
  refine wpAnyH_take (i := 3) (oi := _) (v := ?_) rfl (by kernel_rfl) (by kernel_rfl) (by kernel_rfl) (fun _ _ _ h => h) (Or.inl ⟨by rfl, ?_⟩) (by assumption) ?_
  rotate_left
  focus (intro wS hSw; (try dsimp only at hSw); go_simp; (try with_reducible rfl))
  try simp only [Act.put, List.getElem_toArray, List.getElem_cons_zero, List.getElem_cons_succ, List.setIfInBounds_toArray, List.set_cons_zero, List.set_cons_succ]
  refine wpAnyH_take (i := 6) (oi := _) (v := ?_) rfl (by kernel_rfl) (by kernel_rfl) (by kernel_rfl) (fun _ _ _ h => h) (Or.inl ⟨by rfl, ?_⟩) (by assumption) ?_
  rotate_left
  focus (intro wS hSw; (try dsimp only at hSw); go_simp; (try with_reducible rfl))
  try simp only [Act.put, List.getElem_toArray, List.getElem_cons_zero, List.getElem_cons_succ, List.setIfInBounds_toArray, List.set_cons_zero, List.set_cons_succ]
  refine wpAnyH_take (i := 7) (oi := _) (v := ?_) rfl (by kernel_rfl) (by kernel_rfl) (by kernel_rfl) (fun _ _ _ h => h) (Or.inl ⟨by rfl, ?_⟩) (by assumption) ?_
  rotate_left
  focus (intro wS hSw; (try dsimp only at hSw); go_simp; (try with_reducible rfl))
  try simp only [Act.put, List.getElem_toArray, List.getElem_cons_zero, List.getElem_cons_succ, List.setIfInBounds_toArray, List.set_cons_zero, List.set_cons_succ]
  refine wpAnyH_take (i := 8) (oi := _) (v := ?_) rfl (by kernel_rfl) (by kernel_rfl) (by kernel_rfl) (fun _ _ _ h => h) (Or.inl ⟨by rfl, ?_⟩) (by assumption) ?_
  rotate_left
  focus (intro wS hSw; (try dsimp only at hSw); go_simp; (try with_reducible rfl))
  try simp only [Act.put, List.getElem_toArray, List.getElem_cons_zero, List.getElem_cons_succ, List.setIfInBounds_toArray, List.set_cons_zero, List.set_cons_succ]
  refine wpAnyH_take (i := 9) (oi := _) (v := ?_) rfl (by kernel_rfl) (by kernel_rfl) (by kernel_rfl) (fun _ _ _ h => h) (Or.inl ⟨by rfl, ?_⟩) (by assumption) ?_
  rotate_left
  focus (intro wS hSw; (try dsimp only at hSw); go_simp; (try with_reducible rfl))
  try simp only [Act.put, List.getElem_toArray, List.getElem_cons_zero, List.getElem_cons_succ, List.setIfInBounds_toArray, List.set_cons_zero, List.set_cons_succ]
  refine wpAnyH_ready (rs := [4]) (by kernel_rfl) (by simp) (AllReadyH.cons (o := _) rfl (fun K hK => ?_) AllReadyH.nil)
  go_simp
  go_at_call 8
  refine (nextB_any B0 k _ _ (by omega) (H12.out.tape)).mono ?_
  rintro e w15 ⟨x14, rfl, x14a, x14b, htn, hgn, hsn⟩
  have H16 := hid (H12.out.next htn hgn)
  clear htn hgn hsn
  have wX0z : IntKind.i64.wrap (X0 + 1 + x14) = X0 + 1 + x14 := IntWalk.i64_in _ (by omega)
  refine hK.out _ _ ?_ (fun hHeld2 => ?_)
  focus ((try dsimp only); (exact ⟨H16.out.cell 0 rfl 0 rfl, H16.out.cell 0 rfl 1 rfl⟩))
  clear hK K
  try simp only [Act.put, List.getElem_toArray, List.getElem_cons_zero, List.getElem_cons_succ, List.setIfInBounds_toArray, List.set_cons_zero, List.set_cons_succ]
  clear hHeld
  have hHeld := hHeld2
  clear hHeld2
  refine wpAnyH_take (i := 5) (oi := _) (v := ?_) rfl (by kernel_rfl) (by kernel_rfl) (by kernel_rfl) (fun _ _ _ h => h) (Or.inl ⟨by rfl, ?_⟩) (by assumption) ?_
  rotate_left
  focus (intro wS hSw; (try dsimp only at hSw); go_simp; (try with_reducible rfl))
  try simp only [Act.put, List.getElem_toArray, List.getElem_cons_zero, List.getElem_cons_succ, List.setIfInBounds_toArray, List.set_cons_zero, List.set_cons_succ]
  refine wpAnyH_take (i := 12) (oi := _) (v := ?_) rfl (by kernel_rfl) (by kernel_rfl) (by kernel_rfl) (fun _ _ _ h => h) (Or.inl ⟨by rfl, ?_⟩) (by assumption) ?_
  rotate_left
  focus (intro wS hSw; (try dsimp only at hSw); go_simp; (try with_reducible rfl))
  try simp only [Act.put, List.getElem_toArray, List.getElem_cons_zero, List.getElem_cons_succ, List.setIfInBounds_toArray, List.set_cons_zero, List.set_cons_succ]
  refine wpAnyH_ready (rs := [10]) (by kernel_rfl) (by simp) (AllReadyH.cons (o := _) rfl (fun K hK => ?_) AllReadyH.nil)
  go_simp
  go_at_call 8
  refine (nextB_any B0 k _ _ (by omega) (H16.out.tape)).mono ?_
  rintro e w18 ⟨x17, rfl, x17a, x17b, htn, hgn, hsn⟩
  have H19 := hid (H16.out.next htn hgn)
  clear htn hgn hsn
  have wY0z : IntKind.i64.wrap (Y0 + 1 + x17) = Y0 + 1 + x17 := IntWalk.i64_in _ (by omega)
  refine hK.out _ _ ?_ (fun hHeld2 => ?_)
  focus ((try dsimp only); (exact ⟨H19.out.cell 0 rfl 0 rfl, H19.out.cell 0 rfl 1 rfl⟩))
  clear hK K
  try simp only [Act.put, List.getElem_toArray, List.getElem_cons_zero, List.getElem_cons_succ, List.setIfInBounds_toArray, List.set_cons_zero, List.set_cons_succ]
  clear hHeld
  have hHeld := hHeld2
  clear hHeld2
  refine wpAnyH_take (i := 11) (oi := _) (v := ?_) rfl (by kernel_rfl) (by kernel_rfl) (by kernel_rfl) (fun _ _ _ h => h) (Or.inl ⟨by rfl, ?_⟩) (by assumption) ?_
  rotate_left
  focus (intro wS hSw; (try dsimp only at hSw); go_simp; (try with_reducible rfl))
  try simp only [Act.put, List.getElem_toArray, List.getElem_cons_zero, List.getElem_cons_succ, List.setIfInBounds_toArray, List.set_cons_zero, List.set_cons_succ]
  refine wpAnyH_ready (rs := [13]) (by kernel_rfl) (by simp) (AllReadyH.cons (o := _) rfl (fun K hK => ?_) AllReadyH.nil)
  have z20 := H19.out.cell 0 rfl 0 rfl
  have z21 := H19.out.free 0 rfl 0
  have z22 := H19.out.cell 0 rfl 1 rfl
  have z23 := H19.out.free 0 rfl 1
  have z24 := H19.out.cell 0 rfl 2 rfl
  have z25 := H19.out.free 0 rfl 2
  have z26 := H19.out.cell 0 rfl 3 rfl
  have z27 := H19.out.free 0 rfl 3
  have H28 := hid (show Tk B0 k B W [.cells D9 #[.int .i64 X0, .int .i64 Y0, .int .i64 (X0 + 1 + x14), .int .i64 0] 24, .cells B #[.int .i64 0, .int .i64 0, .int .i64 0, .int .i64 0] 24] (w18.setCell ⟨D9, 2, none⟩ (.int .i64 (X0 + 1 + x14))) from (H19.out.set 0 rfl 2 (.int .i64 (X0 + 1 + x14))))
  go_simp
  refine hK.out _ _ ?_ (fun hHeld2 => ?_)
  focus ((try dsimp only); (exact ⟨H28.out.cell 0 rfl 0 rfl, H28.out.cell 0 rfl 1 rfl⟩))
  clear hK K hHeld
  try simp only [Act.put, List.getElem_toArray, List.getElem_cons_zero, List.getElem_cons_succ, List.setIfInBounds_toArray, List.set_cons_zero, List.set_cons_succ]
  clear z20 z21 z22 z23 z24 z25 z26 z27
  generalize (w18.setCell ⟨D9, 2, none⟩ (.int .i64 (X0 + 1 + x14))) = k29 at *
  have hHeld := hHeld2
  clear hHeld2
  refine wpAnyH_take (i := 14) (oi := _) (v := ?_) rfl (by kernel_rfl) (by kernel_rfl) (by kernel_rfl) (fun _ _ _ h => h) (Or.inl ⟨by rfl, ?_⟩) (by assumption) ?_
  rotate_left
  focus (intro wS hSw; (try dsimp only at hSw); go_simp; (try with_reducible rfl))
  try simp only [Act.put, List.getElem_toArray, List.getElem_cons_zero, List.getElem_cons_succ, List.setIfInBounds_toArray, List.set_cons_zero, List.set_cons_succ]
  refine wpAnyH_ready (rs := [15]) (by kernel_rfl) (by simp) (AllReadyH.cons (o := _) rfl (fun K hK => ?_) AllReadyH.nil)
  have z30 := H28.out.cell 0 rfl 0 rfl
  have z31 := H28.out.free 0 rfl 0
  have z32 := H28.out.cell 0 rfl 1 rfl
  have z33 := H28.out.free 0 rfl 1
  have z34 := H28.out.cell 0 rfl 2 rfl
  have z35 := H28.out.free 0 rfl 2
  have z36 := H28.out.cell 0 rfl 3 rfl
  have z37 := H28.out.free 0 rfl 3
  have H38 := hid (show Tk B0 k B W [.cells D9 #[.int .i64 X0, .int .i64 Y0, .int .i64 (X0 + 1 + x14), .int .i64 (Y0 + 1 + x17)] 24, .cells B #[.int .i64 0, .int .i64 0, .int .i64 0, .int .i64 0] 24] (k29.setCell ⟨D9, 3, none⟩ (.int .i64 (Y0 + 1 + x17))) from (H28.out.set 0 rfl 3 (.int .i64 (Y0 + 1 + x17))))
  go_simp
  refine hK.out _ _ ?_ (fun hHeld2 => ?_)
  focus ((try dsimp only); (exact ⟨H38.out.cell 0 rfl 0 rfl, H38.out.cell 0 rfl 1 rfl⟩))
  clear hK K hHeld
  try simp only [Act.put, List.getElem_toArray, List.getElem_cons_zero, List.getElem_cons_succ, List.setIfInBounds_toArray, List.set_cons_zero, List.set_cons_succ]
  clear z30 z31 z32 z33 z34 z35 z36 z37
  generalize (k29.setCell ⟨D9, 3, none⟩ (.int .i64 (Y0 + 1 + x17))) = k39 at *
  have hHeld := hHeld2
  clear hHeld2
  refine wpAnyH_done (by kernel_rfl) ?_ _
  try clear hHeld
  go_wp2_with fail
  refine (nextB_any B0 k _ _ (by omega) (H38.out.tape)).mono ?_
  rintro e w41 ⟨x40, rfl, x40a, x40b, htn, hgn, hsn⟩
  have H42 := hid (H38.out.next htn hgn)
  clear htn hgn hsn
  by_cases c43 : (x40 : Int) = 11
  · obtain ⟨c43c, c43d⟩ : (x40 : Int) ≤ 11 ∧ (11 : Int) ≤ x40 := by omega
    have c43a : ((x40 : Int) == (11)) = true := by simpa using c43
    have c43b : ((x40 : Int) != (11)) = false := by simpa using c43
    have c43h := hid c43
    clear c43
    have z44 := H42.out.cell 1 rfl 0 rfl
    have z45 := H42.out.free 1 rfl 0
    have z46 := H42.out.cell 1 rfl 1 rfl
    have z47 := H42.out.free 1 rfl 1
    have z48 := H42.out.cell 1 rfl 2 rfl
    have z49 := H42.out.free 1 rfl 2
    have z50 := H42.out.cell 1 rfl 3 rfl
    have z51 := H42.out.free 1 rfl 3
    go_wp2_with fail
    clear z44 z45 z46 z47 z48 z49 z50 z51
    have H52 := hid (show Tk B0 k B W [.cells D9 #[.int .i64 X0, .int .i64 Y0, .int .i64 (X0 + 1 + x14), .int .i64 (Y0 + 1 + x17)] 24, .cells B #[.int .i64 0, .int .i64 0, .int .i64 0, .int .i64 0] 24] ((((w41.setCell ⟨B, 0, none⟩ (.int .i64 0)).setCell ⟨B, 1, none⟩ (.int .i64 0)).setCell ⟨B, 2, none⟩ (.int .i64 0)).setCell ⟨B, 3, none⟩ (.int .i64 0)) from (H42.out.set4 1 rfl (.int .i64 0) (.int .i64 0) (.int .i64 0) (.int .i64 0)))
    have q53 := H52.out.cell 1 rfl 0 rfl
    have q54 := H52.out.cell 1 rfl 1 rfl
    have q55 := H52.out.cell 1 rfl 2 rfl
    have q56 := H52.out.cell 1 rfl 3 rfl
    refine bodyPost_ret (v := .agg #[.int .i64 0, .int .i64 0, .int .i64 0, .int .i64 0]) ?_ rfl ⟨_, _, _, _, rfl, H52.out.tape, H52.out.grown⟩
    simp [results, Try.results10, go_sem, q53, q54, q55, q56]
  · have c43a : ((x40 : Int) == (11)) = false := by simpa using c43
    have c43b : ((x40 : Int) != (11)) = true := by simpa using c43
    have c43h := hid c43
    clear c43
    by_cases c57 : (x40 : Int) = 12
    · obtain ⟨c57c, c57d⟩ : (x40 : Int) ≤ 12 ∧ (12 : Int) ≤ x40 := by omega
      have c57a : ((x40 : Int) == (12)) = true := by simpa using c57
      have c57b : ((x40 : Int) != (12)) = false := by simpa using c57
      have c57h := hid c57
      clear c57
      have z58 := H42.out.cell 0 rfl 0 rfl
      have z59 := H42.out.free 0 rfl 0
      have z60 := H42.out.cell 0 rfl 1 rfl
      have z61 := H42.out.free 0 rfl 1
      have z62 := H42.out.cell 0 rfl 2 rfl
      have z63 := H42.out.free 0 rfl 2
      have z64 := H42.out.cell 0 rfl 3 rfl
      have z65 := H42.out.free 0 rfl 3
      go_upto_region 10 with fail
      clear z58 z59 z60 z61 z62 z63 z64 z65
      have H66 := hid (show Tk B0 k B W [.cells D9 #[.int .i64 X0, .int .i64 Y0, .int .i64 X0, .int .i64 (Y0 + 1 + x17)] 24, .cells B #[.int .i64 0, .int .i64 0, .int .i64 0, .int .i64 0] 24] (w41.setCell ⟨D9, 2, none⟩ (.int .i64 X0)) from (H42.out.set 0 rfl 2 (.int .i64 X0)))
      first | refine gen_tcode H66.out ?_ | refine gen_tlist H66.out ?_ | refine gen_tcalls H66.out ?_
      intro w67 hG
      clear H66
      have H66 := hid hG
      clear hG
      have z68 := H66.out.cell 0 rfl 0 rfl
      have z69 := H66.out.cell 0 rfl 1 rfl
      have z70 := H66.out.cell 0 rfl 2 rfl
      have z71 := H66.out.cell 0 rfl 3 rfl
      have z72 := H66.out.cell 1 rfl 0 rfl
      have z73 := H66.out.free 1 rfl 0
      have z74 := H66.out.cell 1 rfl 1 rfl
      have z75 := H66.out.free 1 rfl 1
      have z76 := H66.out.cell 1 rfl 2 rfl
      have z77 := H66.out.free 1 rfl 2
      have z78 := H66.out.cell 1 rfl 3 rfl
      have z79 := H66.out.free 1 rfl 3
      go_wp2_with fail
      clear z68 z69 z70 z71 z72 z73 z74 z75 z76 z77 z78 z79
      have H80 := hid (show Tk B0 k B W [.cells D9 #[.int .i64 X0, .int .i64 Y0, .int .i64 X0, .int .i64 (Y0 + 1 + x17)] 24, .cells B #[.int .i64 X0, .int .i64 Y0, .int .i64 X0, .int .i64 (Y0 + 1 + x17)] 24] ((((w67.setCell ⟨B, 0, none⟩ (.int .i64 X0)).setCell ⟨B, 1, none⟩ (.int .i64 Y0)).setCell ⟨B, 2, none⟩ (.int .i64 X0)).setCell ⟨B, 3, none⟩ (.int .i64 (Y0 + 1 + x17))) from (H66.out.set4 1 rfl (.int .i64 X0) (.int .i64 Y0) (.int .i64 X0) (.int .i64 (Y0 + 1 + x17))))
      have q81 := H80.out.cell 1 rfl 0 rfl
      have q82 := H80.out.cell 1 rfl 1 rfl
      have q83 := H80.out.cell 1 rfl 2 rfl
      have q84 := H80.out.cell 1 rfl 3 rfl
      refine bodyPost_ret (v := .agg #[.int .i64 X0, .int .i64 Y0, .int .i64 X0, .int .i64 (Y0 + 1 + x17)]) ?_ rfl ⟨_, _, _, _, rfl, H80.out.tape, H80.out.grown⟩
      simp [results, Try.results10, go_sem, q81, q82, q83, q84]
    · have c57a : ((x40 : Int) == (12)) = false := by simpa using c57
      have c57b : ((x40 : Int) != (12)) = true := by simpa using c57
      have c57h := hid c57
      clear c57
      by_cases c85 : (x40 : Int) = 13
      · obtain ⟨c85c, c85d⟩ : (x40 : Int) ≤ 13 ∧ (13 : Int) ≤ x40 := by omega
        have c85a : ((x40 : Int) == (13)) = true := by simpa using c85
        have c85b : ((x40 : Int) != (13)) = false := by simpa using c85
        have c85h := hid c85
        clear c85
        obtain ⟨D86, hD86⟩ : ∃ D, w41.heap.size = D := ⟨_, rfl⟩
        go_wp2_with fail
        have H87 := hid (show Tk B0 k B W [.cells D86 #[.int .i64 (-1048576), .int .i64 (-1048577)] 3, .cells D9 #[.int .i64 X0, .int .i64 Y0, .int .i64 (X0 + 1 + x14), .int .i64 (Y0 + 1 + x17)] 24, .cells B #[.int .i64 0, .int .i64 0, .int .i64 0, .int .i64 0] 24] (w41.alloc (.cells #[.int .i64 (-1048576), .int .i64 (-1048577)] 3)) from (H42.out.alloc #[.int .i64 (-1048576), .int .i64 (-1048577)] 3 hD86))
        first | refine gen_tcode H87.out ?_ | refine gen_tlist H87.out ?_ | refine gen_tcalls H87.out ?_
        intro w88 hG
        clear H87
        have H87 := hid hG
        clear hG
        clear hD86
        refine (pickB_any B0 k _ 2 2 [(-1048576), (-1048577)] _ (by omega) (by omega) (H87.out.tape) (H87.out.lit 0 [(-1048576), (-1048577)] rfl (by simp)).row (H87.out.far 0 rfl _)).mono ?_
        rintro e w90 ⟨x89, rfl, hx89, htn, hgn, hsn⟩
        have H91 := hid (H87.out.next htn hgn)
        clear htn hgn hsn
        clear hx89
        obtain ⟨D92, hD92⟩ : ∃ D, w90.heap.size = D := ⟨_, rfl⟩
        go_wp2_with fail
        have H93 := hid (show Tk B0 k B W [.cells D92 #[.int .i64 1048576, .int .i64 1048577] 3, .cells D86 #[.int .i64 (-1048576), .int .i64 (-1048577)] 3, .cells D9 #[.int .i64 X0, .int .i64 Y0, .int .i64 (X0 + 1 + x14), .int .i64 (Y0 + 1 + x17)] 24, .cells B #[.int .i64 0, .int .i64 0, .int .i64 0, .int .i64 0] 24] (w90.alloc (.cells #[.int .i64 1048576, .int .i64 1048577] 3)) from (H91.out.alloc #[.int .i64 1048576, .int .i64 1048577] 3 hD92))
        first | refine gen_tcode H93.out ?_ | refine gen_tlist H93.out ?_ | refine gen_tcalls H93.out ?_
        intro w94 hG
        clear H93
        have H93 := hid hG
        clear hG
        clear hD92
        refine (pickB_any B0 k _ 2 2 [1048576, 1048577] _ (by omega) (by omega) (H93.out.tape) (H93.out.lit 0 [1048576, 1048577] rfl (by simp)).row (H93.out.far 0 rfl _)).mono ?_
        rintro e w96 ⟨x95, rfl, hx95, htn, hgn, hsn⟩
        have H97 := hid (H93.out.next htn hgn)
        clear htn hgn hsn
        clear hx95
        have z98 := H97.out.cell 2 rfl 0 rfl
        have z99 := H97.out.free 2 rfl 0
        have z100 := H97.out.cell 2 rfl 1 rfl
        have z101 := H97.out.free 2 rfl 1
        have z102 := H97.out.cell 2 rfl 2 rfl
        have z103 := H97.out.free 2 rfl 2
        have z104 := H97.out.cell 2 rfl 3 rfl
        have z105 := H97.out.free 2 rfl 3
        go_upto_region 10 with fail
        clear z98 z99 z100 z101 z102 z103 z104 z105
        have H106 := hid (show Tk B0 k B W [.cells D92 #[.int .i64 1048576, .int .i64 1048577] 3, .cells D86 #[.int .i64 (-1048576), .int .i64 (-1048577)] 3, .cells D9 #[.int .i64 x89, .int .i64 Y0, .int .i64 x95, .int .i64 (Y0 + 1 + x17)] 24, .cells B #[.int .i64 0, .int .i64 0, .int .i64 0, .int .i64 0] 24] ((w96.setCell ⟨D9, 0, none⟩ (.int .i64 x89)).setCell ⟨D9, 2, none⟩ (.int .i64 x95)) from ((H97.out.set 2 rfl 0 (.int .i64 x89)).set 2 rfl 2 (.int .i64 x95)))
        first | refine gen_tcode H106.out ?_ | refine gen_tlist H106.out ?_ | refine gen_tcalls H106.out ?_
        intro w107 hG
        clear H106
        have H106 := hid hG
        clear hG
        have z108 := H106.out.cell 2 rfl 0 rfl
        have z109 := H106.out.cell 2 rfl 1 rfl
        have z110 := H106.out.cell 2 rfl 2 rfl
        have z111 := H106.out.cell 2 rfl 3 rfl
        have z112 := H106.out.cell 3 rfl 0 rfl
        have z113 := H106.out.free 3 rfl 0
        have z114 := H106.out.cell 3 rfl 1 rfl
        have z115 := H106.out.free 3 rfl 1
        have z116 := H106.out.cell 3 rfl 2 rfl
        have z117 := H106.out.free 3 rfl 2
        have z118 := H106.out.cell 3 rfl 3 rfl
        have z119 := H106.out.free 3 rfl 3
        go_wp2_with fail
        clear z108 z109 z110 z111 z112 z113 z114 z115 z116 z117 z118 z119
        have H120 := hid (show Tk B0 k B W [.cells D92 #[.int .i64 1048576, .int .i64 1048577] 3, .cells D86 #[.int .i64 (-1048576), .int .i64 (-1048577)] 3, .cells D9 #[.int .i64 x89, .int .i64 Y0, .int .i64 x95, .int .i64 (Y0 + 1 + x17)] 24, .cells B #[.int .i64 x89, .int .i64 Y0, .int .i64 x95, .int .i64 (Y0 + 1 + x17)] 24] ((((w107.setCell ⟨B, 0, none⟩ (.int .i64 x89)).setCell ⟨B, 1, none⟩ (.int .i64 Y0)).setCell ⟨B, 2, none⟩ (.int .i64 x95)).setCell ⟨B, 3, none⟩ (.int .i64 (Y0 + 1 + x17))) from (H106.out.set4 3 rfl (.int .i64 x89) (.int .i64 Y0) (.int .i64 x95) (.int .i64 (Y0 + 1 + x17))))
        have q121 := H120.out.cell 3 rfl 0 rfl
        have q122 := H120.out.cell 3 rfl 1 rfl
        have q123 := H120.out.cell 3 rfl 2 rfl
        have q124 := H120.out.cell 3 rfl 3 rfl
        refine bodyPost_ret (v := .agg #[.int .i64 x89, .int .i64 Y0, .int .i64 x95, .int .i64 (Y0 + 1 + x17)]) ?_ rfl ⟨_, _, _, _, rfl, H120.out.tape, H120.out.grown⟩
        simp [results, Try.results10, go_sem, q121, q122, q123, q124]
      · have c85a : ((x40 : Int) == (13)) = false := by simpa using c85
        have c85b : ((x40 : Int) != (13)) = true := by simpa using c85
        have c85h := hid c85
        clear c85
        have z125 := H42.out.cell 0 rfl 0 rfl
        have z126 := H42.out.cell 0 rfl 1 rfl
        have z127 := H42.out.cell 0 rfl 2 rfl
        have z128 := H42.out.cell 0 rfl 3 rfl
        have z129 := H42.out.cell 1 rfl 0 rfl
        have z130 := H42.out.free 1 rfl 0
        have z131 := H42.out.cell 1 rfl 1 rfl
        have z132 := H42.out.free 1 rfl 1
        have z133 := H42.out.cell 1 rfl 2 rfl
        have z134 := H42.out.free 1 rfl 2
        have z135 := H42.out.cell 1 rfl 3 rfl
        have z136 := H42.out.free 1 rfl 3
        go_wp2_with fail
        clear z125 z126 z127 z128 z129 z130 z131 z132 z133 z134 z135 z136
        have H137 := hid (show Tk B0 k B W [.cells D9 #[.int .i64 X0, .int .i64 Y0, .int .i64 (X0 + 1 + x14), .int .i64 (Y0 + 1 + x17)] 24, .cells B #[.int .i64 X0, .int .i64 Y0, .int .i64 (X0 + 1 + x14), .int .i64 (Y0 + 1 + x17)] 24] ((((w41.setCell ⟨B, 0, none⟩ (.int .i64 X0)).setCell ⟨B, 1, none⟩ (.int .i64 Y0)).setCell ⟨B, 2, none⟩ (.int .i64 (X0 + 1 + x14))).setCell ⟨B, 3, none⟩ (.int .i64 (Y0 + 1 + x17))) from (H42.out.set4 1 rfl (.int .i64 X0) (.int .i64 Y0) (.int .i64 (X0 + 1 + x14)) (.int .i64 (Y0 + 1 + x17))))
        have q138 := H137.out.cell 1 rfl 0 rfl
        have q139 := H137.out.cell 1 rfl 1 rfl
        have q140 := H137.out.cell 1 rfl 2 rfl
        have q141 := H137.out.cell 1 rfl 3 rfl
        refine bodyPost_ret (v := .agg #[.int .i64 X0, .int .i64 Y0, .int .i64 (X0 + 1 + x14), .int .i64 (Y0 + 1 + x17)]) ?_ rfl ⟨_, _, _, _, rfl, H137.out.tape, H137.out.grown⟩
        simp [results, Try.results10, go_sem, q138, q139, q140, q141]
end Go.Proofs.Ytlidacfokgdlgaa
