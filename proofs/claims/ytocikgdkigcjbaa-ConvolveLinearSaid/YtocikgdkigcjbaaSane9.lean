/-
  Contract: the example of the chapter on convolutions.
-/
import Derived.Test.YtocikgdkigcjbaaCvTile
import Derived.Test.YtocikgdkigcjbaaKX
namespace Go.Proofs.Ytocikgdkigcjbaa
open Go.RowKit
attribute [local go_sem ↓] Go.wp_at_zero Go.wp_at_succ
set_option linter.unusedVariables false
set_option linter.unusedSimpArgs false

set_option maxRecDepth 100000 in
set_option maxHeartbeats 6400000 in
theorem sane9 (W : World) : Calls Try.prog 14 #[] W fun e w' => e = .returned (.bool true) ∧ Below W.heap.size W w' := by
  obtain ⟨B, hB⟩ : ∃ B, W.heap.size = B := ⟨_, rfl⟩
  have HI0 := hid (St.init hB)
  go_enter Try.func14, Try.ntmps14
  go_upto_region 2 with fail
  have H1 := hid (show St B W [.cells (B + 1) #[.int .i64 3, .int .i64 1, .int .i64 8, .slice (some ⟨B, 0, none⟩) 3 3] 35, .cells B #[.int .i64 0, .int .i64 8, .int .i64 0] 3] [] ((W.alloc (.cells #[.int .i64 0, .int .i64 8, .int .i64 0] 3)).alloc (.cells #[.int .i64 3, .int .i64 1, .int .i64 8, .slice (some ⟨B, 0, none⟩) 3 3] 35)) from ((HI0.out.alloc #[.int .i64 0, .int .i64 8, .int .i64 0] 3 hB).alloc #[.int .i64 3, .int .i64 1, .int .i64 8, .slice (some ⟨B, 0, none⟩) 3 3] 35 (by first | exact hB | simp [hB])))
  first | refine gen_code H1.out ?_ | refine gen_list H1.out ?_ | refine gen_calls H1.out ?_
  intro w2 hG
  clear H1
  have H1 := hid hG
  clear hG
  obtain ⟨D3, hD3⟩ : ∃ D, w2.heap.size = D := ⟨_, rfl⟩
  have z4 := H1.out.cell 0 rfl 0 rfl
  have z5 := H1.out.cell 0 rfl 1 rfl
  have z6 := H1.out.cell 0 rfl 2 rfl
  have z7 := H1.out.cell 0 rfl 3 rfl
  go_wp2_with fail
  clear z4 z5 z6 z7
  have H8 := hid (show St B W [.cells D3 #[.int .i64 1, .int .i64 2, .int .i64 1] 3, .cells (B + 1) #[.int .i64 3, .int .i64 1, .int .i64 8, .slice (some ⟨B, 0, none⟩) 3 3] 35, .cells B #[.int .i64 0, .int .i64 8, .int .i64 0] 3] [] (w2.alloc (.cells #[.int .i64 1, .int .i64 2, .int .i64 1] 3)) from (H1.out.alloc #[.int .i64 1, .int .i64 2, .int .i64 1] 3 hD3))
  first | refine gen_code H8.out ?_ | refine gen_list H8.out ?_ | refine gen_calls H8.out ?_
  intro w9 hG
  clear H8
  have H8 := hid hG
  clear hG
  clear hD3
  refine (ctile_any _ _ _ _ _ _ [0, 8, 0] _ _ _ _ _ _ _ [1, 2, 1] _ _ _ _ _ _ _ (H8.out.lit 2 [0, 8, 0] rfl (by simp)) (H8.out.lit 0 [1, 2, 1] rfl (by simp))).mono ?_
  rintro e w10 ⟨v11, rfl, ho, hb⟩
  rw [show cvTC 3 1 8 [0, 8, 0] 0 0 3 1 [1, 2, 1] 2 255 0 0 3 1 = 0 from by decide +kernel] at ho ⊢
  rw [show tI 0 (3 - 0) = 3 from by decide +kernel, show tI 0 (1 - 0) = 1 from by decide +kernel, show tI 0 255 = 255 from by decide +kernel]
  rw [show tL 0 (cvL 3 1 [0, 8, 0] 0 0 3 1 [1, 2, 1] 2 255 0 0 3 1) = [2, 4, 2] from by decide +kernel] at ho
  have H12 := hid (H8.out.grow hb ho)
  obtain ⟨v11g, v11c, rfl⟩ := ho.pos (by decide)
  clear ho hb
  obtain ⟨D13, hD13⟩ : ∃ D, w10.heap.size = D := ⟨_, rfl⟩
  go_upto_region 3 with fail
  have H14 := hid (show St B W [.cells D13 #[.int .i64 3, .int .i64 1, .int .i64 255, .slice (some ⟨v11g, 0, none⟩) 3 v11c] 35, .own (.slice (some ⟨v11g, 0, none⟩) 3 v11c) ([2, 4, 2]), .cells D3 #[.int .i64 1, .int .i64 2, .int .i64 1] 3, .cells (B + 1) #[.int .i64 3, .int .i64 1, .int .i64 8, .slice (some ⟨B, 0, none⟩) 3 3] 35, .cells B #[.int .i64 0, .int .i64 8, .int .i64 0] 3] [] (w10.alloc (.cells #[.int .i64 3, .int .i64 1, .int .i64 255, .slice (some ⟨v11g, 0, none⟩) 3 v11c] 35)) from (H12.out.alloc #[.int .i64 3, .int .i64 1, .int .i64 255, .slice (some ⟨v11g, 0, none⟩) 3 v11c] 35 hD13))
  first | refine gen_code H14.out ?_ | refine gen_list H14.out ?_ | refine gen_calls H14.out ?_
  intro w15 hG
  clear H14
  have H14 := hid hG
  clear hG
  clear hD13
  have g1 := (H14.out.get 1 rfl (j := 0) (by decide)).1
  have g2 := (H14.out.get 1 rfl (j := 1) (by decide)).1
  simp only [List.getD_cons_succ, List.getD_cons_zero] at g1 g2
  obtain ⟨D16, hD16⟩ : ∃ D, w15.heap.size = D := ⟨_, rfl⟩
  have z17 := H14.out.cell 0 rfl 0 rfl
  have z18 := H14.out.cell 0 rfl 1 rfl
  have z19 := H14.out.cell 0 rfl 2 rfl
  have z20 := H14.out.cell 0 rfl 3 rfl
  go_wp2_with fail
  clear z17 z18 z19 z20
  have H21 := hid (show St B W [.cells D16 #[.int .i64 1, .int .i64 2, .int .i64 1] 3, .cells D13 #[.int .i64 3, .int .i64 1, .int .i64 255, .slice (some ⟨v11g, 0, none⟩) 3 v11c] 35, .own (.slice (some ⟨v11g, 0, none⟩) 3 v11c) ([2, 4, 2]), .cells D3 #[.int .i64 1, .int .i64 2, .int .i64 1] 3, .cells (B + 1) #[.int .i64 3, .int .i64 1, .int .i64 8, .slice (some ⟨B, 0, none⟩) 3 3] 35, .cells B #[.int .i64 0, .int .i64 8, .int .i64 0] 3] [] (w15.alloc (.cells #[.int .i64 1, .int .i64 2, .int .i64 1] 3)) from (H14.out.alloc #[.int .i64 1, .int .i64 2, .int .i64 1] 3 hD16))
  first | refine gen_code H21.out ?_ | refine gen_list H21.out ?_ | refine gen_calls H21.out ?_
  intro w22 hG
  clear H21
  have H21 := hid hG
  clear hG
  clear hD16
  refine (ccheck_any _ _ _ _ _ _ _ _ [1, 2, 1] _ (H21.out.lit 0 [1, 2, 1] rfl (by simp))).mono ?_
  rintro e w23 ⟨rfl, hb⟩
  have H24 := hid (H21.out.call hb)
  clear hb
  rw [show cvCode 8 3 1 [1, 2, 1] 2 255 = 0 from by decide +kernel]
  go_wp2_with fail
  go_ret
  exact ⟨rfl, by first | exact H24.out.below | exact H24.out.below'⟩
end Go.Proofs.Ytocikgdkigcjbaa
