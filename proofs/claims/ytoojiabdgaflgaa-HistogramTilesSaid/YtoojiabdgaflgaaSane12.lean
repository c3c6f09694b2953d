/-
  The sanity check of layer 12.
-/
import Derived.Test.YtoojiabdgaflgaaHist6
import Derived.Test.YtoojiabdgaflgaaMerge2
import Derived.Deep.RegionHeld3
namespace Go.Proofs.Ytoojiabdgaflgaa
open Go.RowKit
set_option linter.unusedVariables false
set_option linter.unusedSimpArgs false

set_option maxRecDepth 100000 in
set_option maxHeartbeats 1600000 in
theorem sane12 (W : World) : Calls Try.prog 26 #[] W fun e w' => e = .returned (.bool true) ∧ Below W.heap.size W w' := by
  obtain ⟨B, hB⟩ : ∃ B, W.heap.size = B := ⟨_, rfl⟩
  go_enter Try.func26, Try.ntmps26
  have H0 := hid (((St.init hB).alloc #[.int .i64 63, .int .i64 64] 3 hB).alloc #[.int .i64 2, .int .i64 1, .int .i64 255, .slice (some ⟨B, 0, none⟩) 2 2] 26 (alloc_size _ hB))
  go_wp2_with fail
  refine (partial_any _ _ _ _ _ _ [63, 64] _ _ _ _ _ _ (H0.out.lit 1 [63, 64] rfl (by decide))).mono ?_
  rintro e w1 ⟨v1, rfl, ho, hb⟩
  rw [show hOk 2 1 255 [63, 64] 4 0 0 2 1 = 0 from by decide +kernel]
  rw [show hList 2 1 255 [63, 64] 4 0 0 2 1 = [1, 1, 0, 0] from by decide +kernel] at ho
  have H1 := hid (H0.out.grow hb ho)
  obtain ⟨g1, c1, rfl⟩ := ho.pos (by decide)
  clear ho hb
  have x0 := H1.out.cell 1 rfl 0 rfl
  have x1 := H1.out.cell 1 rfl 1 rfl
  have x2 := H1.out.cell 1 rfl 2 rfl
  have x3 := H1.out.cell 1 rfl 3 rfl
  go_wp2_with fail
  refine (whole_any _ _ _ _ _ _ [63, 64] _ _ (H1.out.lit 2 [63, 64] rfl (by decide))).mono ?_
  rintro e w2 ⟨v2, rfl, ho, hb⟩
  rw [show wCode 2 1 255 [63, 64] 4 = 0 from by decide +kernel]
  simp only [show ∀ x, wIf 2 1 255 [63, 64] 4 x = x from fun x => by unfold wIf; rw [if_pos (by decide +kernel)]]
  rw [show hList 2 1 255 [63, 64] 4 0 0 2 1 = [1, 1, 0, 0] from by decide +kernel] at ho
  have H2 := hid (H1.out.grow hb ho)
  obtain ⟨g2, c2, rfl⟩ := ho.pos (by decide)
  clear ho hb x0 x1 x2 x3
  obtain ⟨D, hD⟩ : ∃ D, w2.heap.size = D := ⟨_, rfl⟩
  go_wp2_with fail
  have H3 := hid ((((H2.out.alloc #[.int .i64 4, .int .i64 1, .int .i64 2, .slice (some ⟨g2, 0, none⟩) 4 c2] 26 hD).alloc #[.int .i64 1, .int .i64 2] 3 (alloc_size _ hD)).alloc #[.int .i64 3, .int .i64 4] 3 (alloc_size _ (alloc_size _ hD))).alloc #[.slice (some ⟨D + 1, 0, none⟩) 2 2, .slice (some ⟨D + 1 + 1, 0, none⟩) 2 2] 22 (alloc_size _ (alloc_size _ (alloc_size _ hD))))
  refine (merge_any _ _ _ [[1, 2], [3, 4]] _ ⟨rfl, by decide, by decide, .inr ⟨_, _, rfl, fun i hi => ?_⟩⟩).mono ?_
  · match i, hi with
    | 0, _ => exact ⟨_, _, _, H3.out.cell 0 rfl 0 rfl, H3.out.lit 2 [1, 2] rfl (by decide)⟩
    | 1, _ => exact ⟨_, _, _, H3.out.cell 0 rfl 1 rfl, H3.out.lit 1 [3, 4] rfl (by decide)⟩
  rintro e w4 ⟨v4, rfl, ho, hb⟩
  rw [show mCode [[1, 2], [3, 4]] = 0 from by decide +kernel]
  rw [show mList [[1, 2], [3, 4]] = [4, 6] from by decide +kernel] at ho
  have H4 := hid (H3.out.grow hb ho)
  obtain ⟨g4, c4, rfl⟩ := ho.pos (by decide)
  clear ho hb
  have z1 := (H4.out.get 6 rfl (j := 1) (by decide)).1
  have z2 := H4.out.cell 4 rfl 2 rfl
  have z3 := (H4.out.get 0 rfl (j := 1) (by decide)).1
  have e1 : hBin 63 255 4 = 0 := by decide +kernel
  have e2 : hBin 64 255 4 = 1 := by decide +kernel
  simp only [List.getD_cons_succ, List.getD_cons_zero] at z1 z3
  go_wp2_with (first | (go_at_call 25; refine (bin_any _ _ _ _).mono ?_; rintro e w' ⟨rfl, rfl⟩))
  go_ret
  exact ⟨rfl, H4.out.below⟩
end Go.Proofs.Ytoojiabdgaflgaa
