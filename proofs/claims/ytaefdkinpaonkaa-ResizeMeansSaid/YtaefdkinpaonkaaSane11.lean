/-
  Contract: the example of the chapter on resizing.
-/
import Derived.Test.YtaefdkinpaonkaaRzTile
import Derived.Test.YtaefdkinpaonkaaTaps2
import Derived.Test.YtaefdkinpaonkaaKX
namespace Go.Proofs.Ytaefdkinpaonkaa
open Go.RowKit
attribute [local go_sem ↓] Go.wp_at_zero Go.wp_at_succ
set_option linter.unusedVariables false
set_option linter.unusedSimpArgs false

theorem own_tap1 {B D1 D2 n : Nat} {k : Int} {zs : List Int} {w : World} (h : w.heap[D2]? = some (.cells #[.int .i64 k, .slice (some ⟨D1, 0, none⟩) n n] 32 (0, 0))) (h2 : B ≤ D2) (hs : Slc w (some ⟨D1, 0, none⟩) n n zs) (h1 : B ≤ D1) (hne : D1 ≠ D2) : OwnT B w (.slice (some ⟨D2, 0, none⟩) 1 1) [(k, zs)] := by
  refine ⟨[(k, ⟨some ⟨D1, 0, none⟩, n, n, zs⟩)], rfl, ⟨rfl, .inr ⟨D2, 1, _, rfl, h2, h, Nat.le_refl _, by unfold maxLen; decide, rfl, rfl⟩⟩, fun p hp => ?_⟩
  simp only [List.mem_singleton] at hp
  subst hp
  exact ⟨hs, .inr ⟨_, rfl, h1⟩, fun b hb => .inr ⟨_, rfl, fun e => hne (by cases hb; exact e)⟩⟩
theorem tps2 {w : World} {D n1 n2 c1 c2 : Nat} {a1 a2 : Option Addr} {k1 k2 : Int} {z1 z2 : List Int} (e0 : w.cell? ⟨D, 0, none⟩ = some (.int .i64 k1)) (e1 : w.cell? ⟨D, 1, none⟩ = some (.slice a1 n1 c1)) (e2 : w.cell? ⟨D, 2, none⟩ = some (.int .i64 k2)) (e3 : w.cell? ⟨D, 3, none⟩ = some (.slice a2 n2 c2)) (s1 : Slc w a1 n1 c1 z1) (s2 : Slc w a2 n2 c2 z2) : Tps w (some ⟨D, 0, none⟩) 2 2 [(k1, z1), (k2, z2)] := by
  refine ⟨rfl, Nat.le_refl _, by omega, .inr ⟨D, 0, rfl, fun i hi => ?_⟩⟩
  rcases (show i = 0 ∨ i = 1 by omega) with rfl | rfl
  · exact ⟨a1, n1, c1, e0, e1, s1⟩
  · exact ⟨a2, n2, c2, e2, e3, s2⟩

set_option maxHeartbeats 800000 in
theorem one_any (W : World) : Calls Try.prog 36 #[] W fun e w' => ∃ v, e = .returned v ∧ OwnT W.heap.size w' v [(0, [256])] ∧ Below W.heap.size W w' := by
  obtain ⟨B, hB⟩ : ∃ B, W.heap.size = B := ⟨_, rfl⟩
  have HI0 := hid (St.init hB)
  go_enter Try.func36, Try.ntmps36
  go_wp2_with fail
  have H1 := hid (show St B W [.cells (B + 1) #[.int .i64 0, .slice (some ⟨B, 0, none⟩) 1 1] 32, .cells B #[.int .i64 256] 3] [] ((W.alloc (.cells #[.int .i64 256] 3)).alloc (.cells #[.int .i64 0, .slice (some ⟨B, 0, none⟩) 1 1] 32)) from ((HI0.out.alloc #[.int .i64 256] 3 hB).alloc #[.int .i64 0, .slice (some ⟨B, 0, none⟩) 1 1] 32 (by first | exact hB | simp [hB])))
  go_ret
  exact ⟨_, rfl, by (try rw [hB]); exact own_tap1 (H1.out.all 0 _ rfl).2 (H1.out.lt 0 rfl rfl).1 (H1.out.lit 1 [256] rfl (by simp)) (H1.out.lt 1 rfl rfl).1 (by omega), by first | exact H1.out.below | exact H1.out.below'⟩

set_option maxRecDepth 100000 in
set_option maxHeartbeats 6400000 in
theorem sane11 (W : World) : Calls Try.prog 13 #[] W fun e w' => e = .returned (.bool true) ∧ Below W.heap.size W w' := by
  obtain ⟨B, hB⟩ : ∃ B, W.heap.size = B := ⟨_, rfl⟩
  have HI0 := hid (St.init hB)
  go_enter Try.func13, Try.ntmps13
  go_upto_region 2 with fail
  have H2 := hid (show St B W [.cells (B + 1) #[.int .i64 4, .int .i64 1, .int .i64 30, .slice (some ⟨B, 0, none⟩) 4 4] 40, .cells B #[.int .i64 0, .int .i64 10, .int .i64 20, .int .i64 30] 3] [] ((W.alloc (.cells #[.int .i64 0, .int .i64 10, .int .i64 20, .int .i64 30] 3)).alloc (.cells #[.int .i64 4, .int .i64 1, .int .i64 30, .slice (some ⟨B, 0, none⟩) 4 4] 40)) from ((HI0.out.alloc #[.int .i64 0, .int .i64 10, .int .i64 20, .int .i64 30] 3 hB).alloc #[.int .i64 4, .int .i64 1, .int .i64 30, .slice (some ⟨B, 0, none⟩) 4 4] 40 (by first | exact hB | simp [hB])))
  first | refine gen_code H2.out ?_ | refine gen_list H2.out ?_ | refine gen_calls H2.out ?_
  intro w3 hG
  clear H2
  have H2 := hid hG
  clear hG
  obtain ⟨D4, hD4⟩ : ∃ D, w3.heap.size = D := ⟨_, rfl⟩
  go_upto_region 3 with fail
  have H5 := hid (show St B W [.cells (D4 + 1 + 1) #[.int .i64 0, .slice (some ⟨D4, 0, none⟩) 2 2, .int .i64 2, .slice (some ⟨D4 + 1, 0, none⟩) 2 2] 32, .cells (D4 + 1) #[.int .i64 128, .int .i64 128] 3, .cells D4 #[.int .i64 128, .int .i64 128] 3, .cells (B + 1) #[.int .i64 4, .int .i64 1, .int .i64 30, .slice (some ⟨B, 0, none⟩) 4 4] 40, .cells B #[.int .i64 0, .int .i64 10, .int .i64 20, .int .i64 30] 3] [] (((w3.alloc (.cells #[.int .i64 128, .int .i64 128] 3)).alloc (.cells #[.int .i64 128, .int .i64 128] 3)).alloc (.cells #[.int .i64 0, .slice (some ⟨D4, 0, none⟩) 2 2, .int .i64 2, .slice (some ⟨D4 + 1, 0, none⟩) 2 2] 32)) from (((H2.out.alloc #[.int .i64 128, .int .i64 128] 3 hD4).alloc #[.int .i64 128, .int .i64 128] 3 (by first | exact hD4 | simp [hD4])).alloc #[.int .i64 0, .slice (some ⟨D4, 0, none⟩) 2 2, .int .i64 2, .slice (some ⟨D4 + 1, 0, none⟩) 2 2] 32 (by first | exact hD4 | simp [hD4])))
  first | refine gen_code H5.out ?_ | refine gen_list H5.out ?_ | refine gen_calls H5.out ?_
  intro w6 hG
  clear H5
  have H5 := hid hG
  clear hG
  clear hD4
  have H7 := hid H5.out.drew
  refine wp_region_held_drew (S := (fun w' => w'.cell? ⟨B + 1, 0, none⟩ = some (.int .i64 4) ∧ w'.cell? ⟨B + 1, 1, none⟩ = some (.int .i64 1) ∧ w'.cell? ⟨B + 1, 2, none⟩ = some (.int .i64 30) ∧ w'.cell? ⟨B + 1, 3, none⟩ = some (.slice (some ⟨B, 0, none⟩) 4 4))) (by kernel_rfl) ⟨H7.out.cell 3 rfl 0 rfl, H7.out.cell 3 rfl 1 rfl, H7.out.cell 3 rfl 2 rfl, H7.out.cell 3 rfl 3 rfl⟩ (fun hHeld => ?_)
  generalize w6.drew = k8 at *
  refine wpAnyH_take (i := 0) (oi := _) (v := ?_) rfl (by kernel_rfl) (by kernel_rfl) (by kernel_rfl) (fun _ _ _ h => h) (Or.inl ⟨by rfl, ?_⟩) (by assumption) ?_
  rotate_left
  focus (intro wS hSw; (try dsimp only at hSw); go_simp; (try with_reducible rfl))
  try simp only [Act.put, List.getElem_toArray, List.getElem_cons_zero, List.getElem_cons_succ, List.setIfInBounds_toArray, List.set_cons_zero, List.set_cons_succ]
  refine wpAnyH_take (i := 1) (oi := _) (v := ?_) rfl (by kernel_rfl) (by kernel_rfl) (by kernel_rfl) (fun _ _ _ h => h) (Or.inl ⟨by rfl, ?_⟩) (by assumption) ?_
  rotate_left
  focus (intro wS hSw; (try dsimp only at hSw); go_simp; (try with_reducible rfl))
  try simp only [Act.put, List.getElem_toArray, List.getElem_cons_zero, List.getElem_cons_succ, List.setIfInBounds_toArray, List.set_cons_zero, List.set_cons_succ]
  refine wpAnyH_take (i := 2) (oi := _) (v := ?_) rfl (by kernel_rfl) (by kernel_rfl) (by kernel_rfl) (fun _ _ _ h => h) (Or.inl ⟨by rfl, ?_⟩) (by assumption) ?_
  rotate_left
  focus (intro wS hSw; (try dsimp only at hSw); go_simp; (try with_reducible rfl))
  try simp only [Act.put, List.getElem_toArray, List.getElem_cons_zero, List.getElem_cons_succ, List.setIfInBounds_toArray, List.set_cons_zero, List.set_cons_succ]
  refine wpAnyH_take (i := 4) (oi := _) (v := ?_) rfl (by kernel_rfl) (by kernel_rfl) (by kernel_rfl) (fun _ _ _ h => h) (Or.inl ⟨by rfl, ?_⟩) (by assumption) ?_
  rotate_left
  focus (intro wS hSw; (try dsimp only at hSw); go_simp; (try with_reducible rfl))
  try simp only [Act.put, List.getElem_toArray, List.getElem_cons_zero, List.getElem_cons_succ, List.setIfInBounds_toArray, List.set_cons_zero, List.set_cons_succ]
  refine wpAnyH_ready (rs := [3, 9]) (by kernel_rfl) (by simp) (AllReadyH.cons (o := _) rfl (fun K hK => ?_) (AllReadyH.cons (o := _) rfl (fun K hK => ?_) AllReadyH.nil))
  · go_simp
    go_at_call 36
    refine (one_any _).mono ?_
    rintro e w9 ⟨v11, rfl, ho, hb⟩
    obtain ⟨tp12, R13, ta16, tc17, rfl, htd, htq, hmo, hst⟩ := H7.out.addT' hb ho
    have hln : ([(0, [256])] : Tbl).length = 1 := rfl
    rw [hln] at hst ⊢
    clear hln
    have HQ14 := hid htq
    have HD15 := hid htd
    have H10 := hid hst
    clear htq htd hmo hst ho hb
    refine hK.out _ _ ?_ (fun hHeld2 => ?_)
    focus ((try dsimp only); (exact ⟨H10.out.cell 4 rfl 0 rfl, H10.out.cell 4 rfl 1 rfl, H10.out.cell 4 rfl 2 rfl, H10.out.cell 4 rfl 3 rfl⟩))
    clear hK K
    try simp only [Act.put, List.getElem_toArray, List.getElem_cons_zero, List.getElem_cons_succ, List.setIfInBounds_toArray, List.set_cons_zero, List.set_cons_succ]
    clear hHeld
    have hHeld := hHeld2
    clear hHeld2
    refine wpAnyH_ready (rs := [5, 9]) (by kernel_rfl) (by simp) (AllReadyH.cons (o := _) rfl (fun K hK => ?_) (AllReadyH.cons (o := _) rfl (fun K hK => ?_) AllReadyH.nil))
    · go_simp
      go_at_call 19
      refine (rztile_any _ _ _ _ _ _ [0, 10, 20, 30] _ _ _ _ _ [(0, [128, 128]), (2, [128, 128])] _ _ _ [(0, [256])] _ _ _ _ _ _ _ _ (H10.out.lit 5 [0, 10, 20, 30] rfl (by simp)) (tps2 (H10.out.cell 1 rfl 0 rfl) (H10.out.cell 1 rfl 1 rfl) (H10.out.cell 1 rfl 2 rfl) (H10.out.cell 1 rfl 3 rfl) (H10.out.lit 3 [128, 128] rfl (by simp)) (H10.out.lit 2 [128, 128] rfl (by simp))) (by have ht := H10.out.taps 0 rfl HQ14.out; rw [HD15.out] at ht; exact ht)).mono ?_
      rintro e w18 ⟨v19, rfl, ho, hb⟩
      rw [show rzTC 4 1 30 [0, 10, 20, 30] 0 0 [(0, [128, 128]), (2, [128, 128])] [(0, [256])] 8 8 255 0 0 2 1 = 0 from by decide +kernel] at ho ⊢
      rw [show tI 0 (2 - 0) = 2 from by decide +kernel, show tI 0 (1 - 0) = 1 from by decide +kernel, show tI 0 255 = 255 from by decide +kernel]
      rw [show tL 0 (rzL 4 1 [0, 10, 20, 30] 0 0 [(0, [128, 128]), (2, [128, 128])] [(0, [256])] 8 8 255 0 0 2 1) = [5, 25] from by decide +kernel] at ho
      have H20 := hid (H10.out.grow hb ho)
      obtain ⟨v19g, v19c, rfl⟩ := ho.pos (by decide)
      clear ho hb
      refine hK.out _ _ ?_ (fun hHeld2 => ?_)
      focus ((try dsimp only); (exact ⟨H20.out.cell 5 rfl 0 rfl, H20.out.cell 5 rfl 1 rfl, H20.out.cell 5 rfl 2 rfl, H20.out.cell 5 rfl 3 rfl⟩))
      clear hK K
      try simp only [Act.put, List.getElem_toArray, List.getElem_cons_zero, List.getElem_cons_succ, List.setIfInBounds_toArray, List.set_cons_zero, List.set_cons_succ]
      clear hHeld
      have hHeld := hHeld2
      clear hHeld2
      refine wpAnyH_take (i := 6) (oi := _) (v := ?_) rfl (by kernel_rfl) (by kernel_rfl) (by kernel_rfl) (fun _ _ _ h => h) (Or.inl ⟨by rfl, ?_⟩) (by assumption) ?_
      rotate_left
      focus (intro wS hSw; (try dsimp only at hSw); go_simp; (try with_reducible rfl))
      try simp only [Act.put, List.getElem_toArray, List.getElem_cons_zero, List.getElem_cons_succ, List.setIfInBounds_toArray, List.set_cons_zero, List.set_cons_succ]
      refine wpAnyH_take (i := 7) (oi := _) (v := ?_) rfl (by kernel_rfl) (by kernel_rfl) (by kernel_rfl) (fun _ _ _ h => h) (Or.inl ⟨by rfl, ?_⟩) (by assumption) ?_
      rotate_left
      focus (intro wS hSw; (try dsimp only at hSw); go_simp; (try with_reducible rfl))
      try simp only [Act.put, List.getElem_toArray, List.getElem_cons_zero, List.getElem_cons_succ, List.setIfInBounds_toArray, List.set_cons_zero, List.set_cons_succ]
      refine wpAnyH_take (i := 8) (oi := _) (v := ?_) rfl (by kernel_rfl) (by kernel_rfl) (by kernel_rfl) (fun _ _ _ h => h) (Or.inl ⟨by rfl, ?_⟩) (by assumption) ?_
      rotate_left
      focus (intro wS hSw; (try dsimp only at hSw); go_simp; (try with_reducible rfl))
      try simp only [Act.put, List.getElem_toArray, List.getElem_cons_zero, List.getElem_cons_succ, List.setIfInBounds_toArray, List.set_cons_zero, List.set_cons_succ]
      refine wpAnyH_ready (rs := [9]) (by kernel_rfl) (by simp) (AllReadyH.cons (o := _) rfl (fun K hK => ?_) AllReadyH.nil)
      obtain ⟨D21, hD21⟩ : ∃ D, w18.heap.size = D := ⟨_, rfl⟩
      have H22 := hid (H20.out.alloc #[.int .i64 0, .int .i64 0, .int .i64 0, .slice none 0 0] 40 hD21)
      go_simp
      refine hK.out _ _ ?_ (fun hHeld2 => ?_)
      focus ((try dsimp only); (exact ⟨H22.out.cell 6 rfl 0 rfl, H22.out.cell 6 rfl 1 rfl, H22.out.cell 6 rfl 2 rfl, H22.out.cell 6 rfl 3 rfl⟩))
      clear hK K hHeld
      try simp only [Act.put, List.getElem_toArray, List.getElem_cons_zero, List.getElem_cons_succ, List.setIfInBounds_toArray, List.set_cons_zero, List.set_cons_succ]
      clear hD21
      generalize (w18.alloc (.cells #[.int .i64 0, .int .i64 0, .int .i64 0, .slice none 0 0] 40)) = k23 at *
      have hHeld := hHeld2
      clear hHeld2
      refine wpAnyH_ready (rs := [10]) (by kernel_rfl) (by simp) (AllReadyH.cons (o := _) rfl (fun K hK => ?_) AllReadyH.nil)
      have z24 := H22.out.cell 0 rfl 0 rfl
      have z25 := H22.out.free 0 rfl 0
      have z26 := H22.out.cell 0 rfl 1 rfl
      have z27 := H22.out.free 0 rfl 1
      have z28 := H22.out.cell 0 rfl 2 rfl
      have z29 := H22.out.free 0 rfl 2
      have z30 := H22.out.cell 0 rfl 3 rfl
      have z31 := H22.out.free 0 rfl 3
      have H32 := hid (show St B W [.cells D21 #[.int .i64 2, .int .i64 1, .int .i64 255, .slice (some ⟨v19g, 0, none⟩) 2 v19c] 40, .own (.slice (some ⟨v19g, 0, none⟩) 2 v19c) ([5, 25]), .arr (32) 2 (.slice ta16 1 tc17) 1 (tapV tp12), .cells (D4 + 1 + 1) #[.int .i64 0, .slice (some ⟨D4, 0, none⟩) 2 2, .int .i64 2, .slice (some ⟨D4 + 1, 0, none⟩) 2 2] 32, .cells (D4 + 1) #[.int .i64 128, .int .i64 128] 3, .cells D4 #[.int .i64 128, .int .i64 128] 3, .cells (B + 1) #[.int .i64 4, .int .i64 1, .int .i64 30, .slice (some ⟨B, 0, none⟩) 4 4] 40, .cells B #[.int .i64 0, .int .i64 10, .int .i64 20, .int .i64 30] 3] R13 ((((k23.setCell ⟨D21, 0, none⟩ (.int .i64 2)).setCell ⟨D21, 1, none⟩ (.int .i64 1)).setCell ⟨D21, 2, none⟩ (.int .i64 255)).setCell ⟨D21, 3, none⟩ (.slice (some ⟨v19g, 0, none⟩) 2 v19c)) from (H22.out.set4 0 rfl (.int .i64 2) (.int .i64 1) (.int .i64 255) (.slice (some ⟨v19g, 0, none⟩) 2 v19c)))
      go_simp
      refine hK.out _ _ ?_ (fun hHeld2 => ?_)
      focus ((try dsimp only); (exact ⟨H32.out.cell 6 rfl 0 rfl, H32.out.cell 6 rfl 1 rfl, H32.out.cell 6 rfl 2 rfl, H32.out.cell 6 rfl 3 rfl⟩))
      clear hK K hHeld
      try simp only [Act.put, List.getElem_toArray, List.getElem_cons_zero, List.getElem_cons_succ, List.setIfInBounds_toArray, List.set_cons_zero, List.set_cons_succ]
      clear z24 z25 z26 z27 z28 z29 z30 z31
      generalize ((((k23.setCell ⟨D21, 0, none⟩ (.int .i64 2)).setCell ⟨D21, 1, none⟩ (.int .i64 1)).setCell ⟨D21, 2, none⟩ (.int .i64 255)).setCell ⟨D21, 3, none⟩ (.slice (some ⟨v19g, 0, none⟩) 2 v19c)) = k33 at *
      have hHeld := hHeld2
      clear hHeld2
      refine wpAnyH_take (i := 11) (oi := _) (v := ?_) rfl (by kernel_rfl) (by kernel_rfl) (by kernel_rfl) (fun _ _ _ h => h) (Or.inl ⟨by rfl, ?_⟩) (by assumption) ?_
      rotate_left
      focus (intro wS hSw; (try dsimp only at hSw); go_simp; (try with_reducible rfl))
      try simp only [Act.put, List.getElem_toArray, List.getElem_cons_zero, List.getElem_cons_succ, List.setIfInBounds_toArray, List.set_cons_zero, List.set_cons_succ]
      refine wpAnyH_done (by kernel_rfl) ?_ _
      try clear hHeld
      have g0 := (H32.out.get 1 rfl (j := 0) (by decide)).1
      have g1 := (H32.out.get 1 rfl (j := 1) (by decide)).1
      simp only [List.getD_cons_succ, List.getD_cons_zero] at g0 g1
      have z34 := H32.out.cell 0 rfl 0 rfl
      have z35 := H32.out.cell 0 rfl 1 rfl
      have z36 := H32.out.cell 0 rfl 2 rfl
      have z37 := H32.out.cell 0 rfl 3 rfl
      go_wp2_with fail
      clear z34 z35 z36 z37
      refine (one_any _).mono ?_
      rintro e w38 ⟨v40, rfl, ho, hb⟩
      obtain ⟨tp41, R42, ta45, tc46, rfl, htd, htq, hmo, hst⟩ := H32.out.addT' hb ho
      have hln : ([(0, [256])] : Tbl).length = 1 := rfl
      rw [hln] at hst ⊢
      clear hln
      have HQ43 := hid htq
      have HD44 := hid htd
      have H39 := hid hst
      clear htq htd hmo hst ho hb
      go_wp2_with fail
      refine (rzcheck_any _ _ _ _ _ _ [(0, [128, 128]), (2, [128, 128])] _ _ _ [(0, [256])] _ _ _ _ (tps2 (H39.out.cell 4 rfl 0 rfl) (H39.out.cell 4 rfl 1 rfl) (H39.out.cell 4 rfl 2 rfl) (H39.out.cell 4 rfl 3 rfl) (H39.out.lit 6 [128, 128] rfl (by simp)) (H39.out.lit 5 [128, 128] rfl (by simp))) (by have ht := H39.out.taps 0 rfl HQ43.out; rw [HD44.out] at ht; exact ht)).mono ?_
      rintro e w47 ⟨rfl, hb⟩
      have H48 := hid (H39.out.call hb)
      clear hb
      rw [show rzCode 4 1 30 [(0, [128, 128]), (2, [128, 128])] [(0, [256])] 8 8 255 = 0 from by decide +kernel]
      go_wp2_with fail
      go_ret
      exact ⟨rfl, by first | exact H48.out.below | exact H48.out.below'⟩
    · obtain ⟨D49, hD49⟩ : ∃ D, w9.heap.size = D := ⟨_, rfl⟩
      have H50 := hid (H10.out.alloc #[.int .i64 0, .int .i64 0, .int .i64 0, .slice none 0 0] 40 hD49)
      go_simp
      refine hK.out _ _ ?_ (fun hHeld2 => ?_)
      focus ((try dsimp only); (exact ⟨H50.out.cell 5 rfl 0 rfl, H50.out.cell 5 rfl 1 rfl, H50.out.cell 5 rfl 2 rfl, H50.out.cell 5 rfl 3 rfl⟩))
      clear hK K hHeld
      try simp only [Act.put, List.getElem_toArray, List.getElem_cons_zero, List.getElem_cons_succ, List.setIfInBounds_toArray, List.set_cons_zero, List.set_cons_succ]
      clear hD49
      generalize (w9.alloc (.cells #[.int .i64 0, .int .i64 0, .int .i64 0, .slice none 0 0] 40)) = k51 at *
      have hHeld := hHeld2
      clear hHeld2
      refine wpAnyH_ready (rs := [5]) (by kernel_rfl) (by simp) (AllReadyH.cons (o := _) rfl (fun K hK => ?_) AllReadyH.nil)
      go_simp
      go_at_call 19
      refine (rztile_any _ _ _ _ _ _ [0, 10, 20, 30] _ _ _ _ _ [(0, [128, 128]), (2, [128, 128])] _ _ _ [(0, [256])] _ _ _ _ _ _ _ _ (H50.out.lit 6 [0, 10, 20, 30] rfl (by simp)) (tps2 (H50.out.cell 2 rfl 0 rfl) (H50.out.cell 2 rfl 1 rfl) (H50.out.cell 2 rfl 2 rfl) (H50.out.cell 2 rfl 3 rfl) (H50.out.lit 4 [128, 128] rfl (by simp)) (H50.out.lit 3 [128, 128] rfl (by simp))) (by have ht := H50.out.taps 1 rfl HQ14.out; rw [HD15.out] at ht; exact ht)).mono ?_
      rintro e w52 ⟨v53, rfl, ho, hb⟩
      rw [show rzTC 4 1 30 [0, 10, 20, 30] 0 0 [(0, [128, 128]), (2, [128, 128])] [(0, [256])] 8 8 255 0 0 2 1 = 0 from by decide +kernel] at ho ⊢
      rw [show tI 0 (2 - 0) = 2 from by decide +kernel, show tI 0 (1 - 0) = 1 from by decide +kernel, show tI 0 255 = 255 from by decide +kernel]
      rw [show tL 0 (rzL 4 1 [0, 10, 20, 30] 0 0 [(0, [128, 128]), (2, [128, 128])] [(0, [256])] 8 8 255 0 0 2 1) = [5, 25] from by decide +kernel] at ho
      have H54 := hid (H50.out.grow hb ho)
      obtain ⟨v53g, v53c, rfl⟩ := ho.pos (by decide)
      clear ho hb
      refine hK.out _ _ ?_ (fun hHeld2 => ?_)
      focus ((try dsimp only); (exact ⟨H54.out.cell 6 rfl 0 rfl, H54.out.cell 6 rfl 1 rfl, H54.out.cell 6 rfl 2 rfl, H54.out.cell 6 rfl 3 rfl⟩))
      clear hK K
      try simp only [Act.put, List.getElem_toArray, List.getElem_cons_zero, List.getElem_cons_succ, List.setIfInBounds_toArray, List.set_cons_zero, List.set_cons_succ]
      clear hHeld
      have hHeld := hHeld2
      clear hHeld2
      refine wpAnyH_take (i := 6) (oi := _) (v := ?_) rfl (by kernel_rfl) (by kernel_rfl) (by kernel_rfl) (fun _ _ _ h => h) (Or.inl ⟨by rfl, ?_⟩) (by assumption) ?_
      rotate_left
      focus (intro wS hSw; (try dsimp only at hSw); go_simp; (try with_reducible rfl))
      try simp only [Act.put, List.getElem_toArray, List.getElem_cons_zero, List.getElem_cons_succ, List.setIfInBounds_toArray, List.set_cons_zero, List.set_cons_succ]
      refine wpAnyH_take (i := 7) (oi := _) (v := ?_) rfl (by kernel_rfl) (by kernel_rfl) (by kernel_rfl) (fun _ _ _ h => h) (Or.inl ⟨by rfl, ?_⟩) (by assumption) ?_
      rotate_left
      focus (intro wS hSw; (try dsimp only at hSw); go_simp; (try with_reducible rfl))
      try simp only [Act.put, List.getElem_toArray, List.getElem_cons_zero, List.getElem_cons_succ, List.setIfInBounds_toArray, List.set_cons_zero, List.set_cons_succ]
      refine wpAnyH_take (i := 8) (oi := _) (v := ?_) rfl (by kernel_rfl) (by kernel_rfl) (by kernel_rfl) (fun _ _ _ h => h) (Or.inl ⟨by rfl, ?_⟩) (by assumption) ?_
      rotate_left
      focus (intro wS hSw; (try dsimp only at hSw); go_simp; (try with_reducible rfl))
      try simp only [Act.put, List.getElem_toArray, List.getElem_cons_zero, List.getElem_cons_succ, List.setIfInBounds_toArray, List.set_cons_zero, List.set_cons_succ]
      refine wpAnyH_ready (rs := [10]) (by kernel_rfl) (by simp) (AllReadyH.cons (o := _) rfl (fun K hK => ?_) AllReadyH.nil)
      have z55 := H54.out.cell 1 rfl 0 rfl
      have z56 := H54.out.free 1 rfl 0
      have z57 := H54.out.cell 1 rfl 1 rfl
      have z58 := H54.out.free 1 rfl 1
      have z59 := H54.out.cell 1 rfl 2 rfl
      have z60 := H54.out.free 1 rfl 2
      have z61 := H54.out.cell 1 rfl 3 rfl
      have z62 := H54.out.free 1 rfl 3
      have H63 := hid (show St B W [.own (.slice (some ⟨v53g, 0, none⟩) 2 v53c) ([5, 25]), .cells D49 #[.int .i64 2, .int .i64 1, .int .i64 255, .slice (some ⟨v53g, 0, none⟩) 2 v53c] 40, .arr (32) 2 (.slice ta16 1 tc17) 1 (tapV tp12), .cells (D4 + 1 + 1) #[.int .i64 0, .slice (some ⟨D4, 0, none⟩) 2 2, .int .i64 2, .slice (some ⟨D4 + 1, 0, none⟩) 2 2] 32, .cells (D4 + 1) #[.int .i64 128, .int .i64 128] 3, .cells D4 #[.int .i64 128, .int .i64 128] 3, .cells (B + 1) #[.int .i64 4, .int .i64 1, .int .i64 30, .slice (some ⟨B, 0, none⟩) 4 4] 40, .cells B #[.int .i64 0, .int .i64 10, .int .i64 20, .int .i64 30] 3] R13 ((((w52.setCell ⟨D49, 0, none⟩ (.int .i64 2)).setCell ⟨D49, 1, none⟩ (.int .i64 1)).setCell ⟨D49, 2, none⟩ (.int .i64 255)).setCell ⟨D49, 3, none⟩ (.slice (some ⟨v53g, 0, none⟩) 2 v53c)) from (H54.out.set4 1 rfl (.int .i64 2) (.int .i64 1) (.int .i64 255) (.slice (some ⟨v53g, 0, none⟩) 2 v53c)))
      go_simp
      refine hK.out _ _ ?_ (fun hHeld2 => ?_)
      focus ((try dsimp only); (exact ⟨H63.out.cell 6 rfl 0 rfl, H63.out.cell 6 rfl 1 rfl, H63.out.cell 6 rfl 2 rfl, H63.out.cell 6 rfl 3 rfl⟩))
      clear hK K hHeld
      try simp only [Act.put, List.getElem_toArray, List.getElem_cons_zero, List.getElem_cons_succ, List.setIfInBounds_toArray, List.set_cons_zero, List.set_cons_succ]
      clear z55 z56 z57 z58 z59 z60 z61 z62
      generalize ((((w52.setCell ⟨D49, 0, none⟩ (.int .i64 2)).setCell ⟨D49, 1, none⟩ (.int .i64 1)).setCell ⟨D49, 2, none⟩ (.int .i64 255)).setCell ⟨D49, 3, none⟩ (.slice (some ⟨v53g, 0, none⟩) 2 v53c)) = k64 at *
      have hHeld := hHeld2
      clear hHeld2
      refine wpAnyH_take (i := 11) (oi := _) (v := ?_) rfl (by kernel_rfl) (by kernel_rfl) (by kernel_rfl) (fun _ _ _ h => h) (Or.inl ⟨by rfl, ?_⟩) (by assumption) ?_
      rotate_left
      focus (intro wS hSw; (try dsimp only at hSw); go_simp; (try with_reducible rfl))
      try simp only [Act.put, List.getElem_toArray, List.getElem_cons_zero, List.getElem_cons_succ, List.setIfInBounds_toArray, List.set_cons_zero, List.set_cons_succ]
      refine wpAnyH_done (by kernel_rfl) ?_ _
      try clear hHeld
      have g0 := (H63.out.get 0 rfl (j := 0) (by decide)).1
      have g1 := (H63.out.get 0 rfl (j := 1) (by decide)).1
      simp only [List.getD_cons_succ, List.getD_cons_zero] at g0 g1
      have z65 := H63.out.cell 1 rfl 0 rfl
      have z66 := H63.out.cell 1 rfl 1 rfl
      have z67 := H63.out.cell 1 rfl 2 rfl
      have z68 := H63.out.cell 1 rfl 3 rfl
      go_wp2_with fail
      clear z65 z66 z67 z68
      refine (one_any _).mono ?_
      rintro e w69 ⟨v71, rfl, ho, hb⟩
      obtain ⟨tp72, R73, ta76, tc77, rfl, htd, htq, hmo, hst⟩ := H63.out.addT' hb ho
      have hln : ([(0, [256])] : Tbl).length = 1 := rfl
      rw [hln] at hst ⊢
      clear hln
      have HQ74 := hid htq
      have HD75 := hid htd
      have H70 := hid hst
      clear htq htd hmo hst ho hb
      go_wp2_with fail
      refine (rzcheck_any _ _ _ _ _ _ [(0, [128, 128]), (2, [128, 128])] _ _ _ [(0, [256])] _ _ _ _ (tps2 (H70.out.cell 4 rfl 0 rfl) (H70.out.cell 4 rfl 1 rfl) (H70.out.cell 4 rfl 2 rfl) (H70.out.cell 4 rfl 3 rfl) (H70.out.lit 6 [128, 128] rfl (by simp)) (H70.out.lit 5 [128, 128] rfl (by simp))) (by have ht := H70.out.taps 0 rfl HQ74.out; rw [HD75.out] at ht; exact ht)).mono ?_
      rintro e w78 ⟨rfl, hb⟩
      have H79 := hid (H70.out.call hb)
      clear hb
      rw [show rzCode 4 1 30 [(0, [128, 128]), (2, [128, 128])] [(0, [256])] 8 8 255 = 0 from by decide +kernel]
      go_wp2_with fail
      go_ret
      exact ⟨rfl, by first | exact H79.out.below | exact H79.out.below'⟩
  · obtain ⟨D80, hD80⟩ : ∃ D, k8.heap.size = D := ⟨_, rfl⟩
    have H81 := hid (H7.out.alloc #[.int .i64 0, .int .i64 0, .int .i64 0, .slice none 0 0] 40 hD80)
    go_simp
    refine hK.out _ _ ?_ (fun hHeld2 => ?_)
    focus ((try dsimp only); (exact ⟨H81.out.cell 4 rfl 0 rfl, H81.out.cell 4 rfl 1 rfl, H81.out.cell 4 rfl 2 rfl, H81.out.cell 4 rfl 3 rfl⟩))
    clear hK K hHeld
    try simp only [Act.put, List.getElem_toArray, List.getElem_cons_zero, List.getElem_cons_succ, List.setIfInBounds_toArray, List.set_cons_zero, List.set_cons_succ]
    clear hD80
    generalize (k8.alloc (.cells #[.int .i64 0, .int .i64 0, .int .i64 0, .slice none 0 0] 40)) = k82 at *
    have hHeld := hHeld2
    clear hHeld2
    refine wpAnyH_ready (rs := [3]) (by kernel_rfl) (by simp) (AllReadyH.cons (o := _) rfl (fun K hK => ?_) AllReadyH.nil)
    go_simp
    go_at_call 36
    refine (one_any _).mono ?_
    rintro e w83 ⟨v85, rfl, ho, hb⟩
    obtain ⟨tp86, R87, ta90, tc91, rfl, htd, htq, hmo, hst⟩ := H81.out.addT' hb ho
    have hln : ([(0, [256])] : Tbl).length = 1 := rfl
    rw [hln] at hst ⊢
    clear hln
    have HQ88 := hid htq
    have HD89 := hid htd
    have H84 := hid hst
    clear htq htd hmo hst ho hb
    refine hK.out _ _ ?_ (fun hHeld2 => ?_)
    focus ((try dsimp only); (exact ⟨H84.out.cell 5 rfl 0 rfl, H84.out.cell 5 rfl 1 rfl, H84.out.cell 5 rfl 2 rfl, H84.out.cell 5 rfl 3 rfl⟩))
    clear hK K
    try simp only [Act.put, List.getElem_toArray, List.getElem_cons_zero, List.getElem_cons_succ, List.setIfInBounds_toArray, List.set_cons_zero, List.set_cons_succ]
    clear hHeld
    have hHeld := hHeld2
    clear hHeld2
    refine wpAnyH_ready (rs := [5]) (by kernel_rfl) (by simp) (AllReadyH.cons (o := _) rfl (fun K hK => ?_) AllReadyH.nil)
    go_simp
    go_at_call 19
    refine (rztile_any _ _ _ _ _ _ [0, 10, 20, 30] _ _ _ _ _ [(0, [128, 128]), (2, [128, 128])] _ _ _ [(0, [256])] _ _ _ _ _ _ _ _ (H84.out.lit 6 [0, 10, 20, 30] rfl (by simp)) (tps2 (H84.out.cell 2 rfl 0 rfl) (H84.out.cell 2 rfl 1 rfl) (H84.out.cell 2 rfl 2 rfl) (H84.out.cell 2 rfl 3 rfl) (H84.out.lit 4 [128, 128] rfl (by simp)) (H84.out.lit 3 [128, 128] rfl (by simp))) (by have ht := H84.out.taps 0 rfl HQ88.out; rw [HD89.out] at ht; exact ht)).mono ?_
    rintro e w92 ⟨v93, rfl, ho, hb⟩
    rw [show rzTC 4 1 30 [0, 10, 20, 30] 0 0 [(0, [128, 128]), (2, [128, 128])] [(0, [256])] 8 8 255 0 0 2 1 = 0 from by decide +kernel] at ho ⊢
    rw [show tI 0 (2 - 0) = 2 from by decide +kernel, show tI 0 (1 - 0) = 1 from by decide +kernel, show tI 0 255 = 255 from by decide +kernel]
    rw [show tL 0 (rzL 4 1 [0, 10, 20, 30] 0 0 [(0, [128, 128]), (2, [128, 128])] [(0, [256])] 8 8 255 0 0 2 1) = [5, 25] from by decide +kernel] at ho
    have H94 := hid (H84.out.grow hb ho)
    obtain ⟨v93g, v93c, rfl⟩ := ho.pos (by decide)
    clear ho hb
    refine hK.out _ _ ?_ (fun hHeld2 => ?_)
    focus ((try dsimp only); (exact ⟨H94.out.cell 6 rfl 0 rfl, H94.out.cell 6 rfl 1 rfl, H94.out.cell 6 rfl 2 rfl, H94.out.cell 6 rfl 3 rfl⟩))
    clear hK K
    try simp only [Act.put, List.getElem_toArray, List.getElem_cons_zero, List.getElem_cons_succ, List.setIfInBounds_toArray, List.set_cons_zero, List.set_cons_succ]
    clear hHeld
    have hHeld := hHeld2
    clear hHeld2
    refine wpAnyH_take (i := 6) (oi := _) (v := ?_) rfl (by kernel_rfl) (by kernel_rfl) (by kernel_rfl) (fun _ _ _ h => h) (Or.inl ⟨by rfl, ?_⟩) (by assumption) ?_
    rotate_left
    focus (intro wS hSw; (try dsimp only at hSw); go_simp; (try with_reducible rfl))
    try simp only [Act.put, List.getElem_toArray, List.getElem_cons_zero, List.getElem_cons_succ, List.setIfInBounds_toArray, List.set_cons_zero, List.set_cons_succ]
    refine wpAnyH_take (i := 7) (oi := _) (v := ?_) rfl (by kernel_rfl) (by kernel_rfl) (by kernel_rfl) (fun _ _ _ h => h) (Or.inl ⟨by rfl, ?_⟩) (by assumption) ?_
    rotate_left
    focus (intro wS hSw; (try dsimp only at hSw); go_simp; (try with_reducible rfl))
    try simp only [Act.put, List.getElem_toArray, List.getElem_cons_zero, List.getElem_cons_succ, List.setIfInBounds_toArray, List.set_cons_zero, List.set_cons_succ]
    refine wpAnyH_take (i := 8) (oi := _) (v := ?_) rfl (by kernel_rfl) (by kernel_rfl) (by kernel_rfl) (fun _ _ _ h => h) (Or.inl ⟨by rfl, ?_⟩) (by assumption) ?_
    rotate_left
    focus (intro wS hSw; (try dsimp only at hSw); go_simp; (try with_reducible rfl))
    try simp only [Act.put, List.getElem_toArray, List.getElem_cons_zero, List.getElem_cons_succ, List.setIfInBounds_toArray, List.set_cons_zero, List.set_cons_succ]
    refine wpAnyH_ready (rs := [10]) (by kernel_rfl) (by simp) (AllReadyH.cons (o := _) rfl (fun K hK => ?_) AllReadyH.nil)
    have z95 := H94.out.cell 2 rfl 0 rfl
    have z96 := H94.out.free 2 rfl 0
    have z97 := H94.out.cell 2 rfl 1 rfl
    have z98 := H94.out.free 2 rfl 1
    have z99 := H94.out.cell 2 rfl 2 rfl
    have z100 := H94.out.free 2 rfl 2
    have z101 := H94.out.cell 2 rfl 3 rfl
    have z102 := H94.out.free 2 rfl 3
    have H103 := hid (show St B W [.own (.slice (some ⟨v93g, 0, none⟩) 2 v93c) ([5, 25]), .arr (32) 2 (.slice ta90 1 tc91) 1 (tapV tp86), .cells D80 #[.int .i64 2, .int .i64 1, .int .i64 255, .slice (some ⟨v93g, 0, none⟩) 2 v93c] 40, .cells (D4 + 1 + 1) #[.int .i64 0, .slice (some ⟨D4, 0, none⟩) 2 2, .int .i64 2, .slice (some ⟨D4 + 1, 0, none⟩) 2 2] 32, .cells (D4 + 1) #[.int .i64 128, .int .i64 128] 3, .cells D4 #[.int .i64 128, .int .i64 128] 3, .cells (B + 1) #[.int .i64 4, .int .i64 1, .int .i64 30, .slice (some ⟨B, 0, none⟩) 4 4] 40, .cells B #[.int .i64 0, .int .i64 10, .int .i64 20, .int .i64 30] 3] R87 ((((w92.setCell ⟨D80, 0, none⟩ (.int .i64 2)).setCell ⟨D80, 1, none⟩ (.int .i64 1)).setCell ⟨D80, 2, none⟩ (.int .i64 255)).setCell ⟨D80, 3, none⟩ (.slice (some ⟨v93g, 0, none⟩) 2 v93c)) from (H94.out.set4 2 rfl (.int .i64 2) (.int .i64 1) (.int .i64 255) (.slice (some ⟨v93g, 0, none⟩) 2 v93c)))
    go_simp
    refine hK.out _ _ ?_ (fun hHeld2 => ?_)
    focus ((try dsimp only); (exact ⟨H103.out.cell 6 rfl 0 rfl, H103.out.cell 6 rfl 1 rfl, H103.out.cell 6 rfl 2 rfl, H103.out.cell 6 rfl 3 rfl⟩))
    clear hK K hHeld
    try simp only [Act.put, List.getElem_toArray, List.getElem_cons_zero, List.getElem_cons_succ, List.setIfInBounds_toArray, List.set_cons_zero, List.set_cons_succ]
    clear z95 z96 z97 z98 z99 z100 z101 z102
    generalize ((((w92.setCell ⟨D80, 0, none⟩ (.int .i64 2)).setCell ⟨D80, 1, none⟩ (.int .i64 1)).setCell ⟨D80, 2, none⟩ (.int .i64 255)).setCell ⟨D80, 3, none⟩ (.slice (some ⟨v93g, 0, none⟩) 2 v93c)) = k104 at *
    have hHeld := hHeld2
    clear hHeld2
    refine wpAnyH_take (i := 11) (oi := _) (v := ?_) rfl (by kernel_rfl) (by kernel_rfl) (by kernel_rfl) (fun _ _ _ h => h) (Or.inl ⟨by rfl, ?_⟩) (by assumption) ?_
    rotate_left
    focus (intro wS hSw; (try dsimp only at hSw); go_simp; (try with_reducible rfl))
    try simp only [Act.put, List.getElem_toArray, List.getElem_cons_zero, List.getElem_cons_succ, List.setIfInBounds_toArray, List.set_cons_zero, List.set_cons_succ]
    refine wpAnyH_done (by kernel_rfl) ?_ _
    try clear hHeld
    have g0 := (H103.out.get 0 rfl (j := 0) (by decide)).1
    have g1 := (H103.out.get 0 rfl (j := 1) (by decide)).1
    simp only [List.getD_cons_succ, List.getD_cons_zero] at g0 g1
    have z105 := H103.out.cell 2 rfl 0 rfl
    have z106 := H103.out.cell 2 rfl 1 rfl
    have z107 := H103.out.cell 2 rfl 2 rfl
    have z108 := H103.out.cell 2 rfl 3 rfl
    go_wp2_with fail
    clear z105 z106 z107 z108
    refine (one_any _).mono ?_
    rintro e w109 ⟨v111, rfl, ho, hb⟩
    obtain ⟨tp112, R113, ta116, tc117, rfl, htd, htq, hmo, hst⟩ := H103.out.addT' hb ho
    have hln : ([(0, [256])] : Tbl).length = 1 := rfl
    rw [hln] at hst ⊢
    clear hln
    have HQ114 := hid htq
    have HD115 := hid htd
    have H110 := hid hst
    clear htq htd hmo hst ho hb
    go_wp2_with fail
    refine (rzcheck_any _ _ _ _ _ _ [(0, [128, 128]), (2, [128, 128])] _ _ _ [(0, [256])] _ _ _ _ (tps2 (H110.out.cell 4 rfl 0 rfl) (H110.out.cell 4 rfl 1 rfl) (H110.out.cell 4 rfl 2 rfl) (H110.out.cell 4 rfl 3 rfl) (H110.out.lit 6 [128, 128] rfl (by simp)) (H110.out.lit 5 [128, 128] rfl (by simp))) (by have ht := H110.out.taps 0 rfl HQ114.out; rw [HD115.out] at ht; exact ht)).mono ?_
    rintro e w118 ⟨rfl, hb⟩
    have H119 := hid (H110.out.call hb)
    clear hb
    rw [show rzCode 4 1 30 [(0, [128, 128]), (2, [128, 128])] [(0, [256])] 8 8 255 = 0 from by decide +kernel]
    go_wp2_with fail
    go_ret
    exact ⟨rfl, by first | exact H119.out.below | exact H119.out.below'⟩
end Go.Proofs.Ytaefdkinpaonkaa
