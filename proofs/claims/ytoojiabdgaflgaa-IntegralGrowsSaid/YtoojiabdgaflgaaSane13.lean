/-
  Contract: the examples of the chapter on integral planes.
-/
import Derived.Test.YtoojiabdgaflgaaKH
import Derived.Test.YtoojiabdgaflgaaKA
namespace Go.Proofs.Ytoojiabdgaflgaa
open Go.RowKit
attribute [local go_sem ↓] Go.wp_at_zero Go.wp_at_succ
set_option linter.unusedVariables false
set_option linter.unusedSimpArgs false

theorem near_of_row {W : World} {a : Option Addr} {n c : Nat} {zs : List Int} {B : Nat} (h : RowIn .i64 W a n c zs) (hB : W.heap.size = B) : Near a n B := by
  rcases h.row.2 with h0 | ⟨b, o, rfl, hc⟩
  · exact .inl h0
  · rcases Nat.eq_zero_or_pos n with h0 | h0
    · exact .inl h0
    · exact .inr ⟨_, rfl, by have := lt_of_cell (hc 0 h0); simp; omega⟩

set_option maxRecDepth 100000 in
set_option maxHeartbeats 6400000 in
theorem sane13 (W : World) : Calls Try.prog 39 #[] W fun e w' => e = .returned (.bool true) ∧ Below W.heap.size W w' := by
  obtain ⟨B, hB⟩ : ∃ B, W.heap.size = B := ⟨_, rfl⟩
  have HI0 := hid (St.init hB)
  go_enter Try.func39, Try.ntmps39
  go_upto_region 2 with fail
  have H1 := hid (show St B W [.cells (B + 1) #[.int .i64 2, .int .i64 2, .int .i64 9, .slice (some ⟨B, 0, none⟩) 4 4] 26, .cells B #[.int .i64 1, .int .i64 2, .int .i64 3, .int .i64 4] 3] [] ((W.alloc (.cells #[.int .i64 1, .int .i64 2, .int .i64 3, .int .i64 4] 3)).alloc (.cells #[.int .i64 2, .int .i64 2, .int .i64 9, .slice (some ⟨B, 0, none⟩) 4 4] 26)) from ((HI0.out.alloc #[.int .i64 1, .int .i64 2, .int .i64 3, .int .i64 4] 3 hB).alloc #[.int .i64 2, .int .i64 2, .int .i64 9, .slice (some ⟨B, 0, none⟩) 4 4] 26 (by first | exact hB | simp [hB])))
  first | refine gen_code H1.out ?_ | refine gen_list H1.out ?_ | refine gen_calls H1.out ?_
  intro w2 hG
  clear H1
  have H1 := hid hG
  clear hG
  have z3 := H1.out.cell 0 rfl 0 rfl
  have z4 := H1.out.cell 0 rfl 1 rfl
  have z5 := H1.out.cell 0 rfl 2 rfl
  have z6 := H1.out.cell 0 rfl 3 rfl
  go_wp2_with fail
  clear z3 z4 z5 z6
  refine (iwhole_any _ _ _ _ _ _ [1, 2, 3, 4] _ (H1.out.lit 1 [1, 2, 3, 4] rfl (by simp))).mono ?_
  rintro e w7 ⟨v8, rfl, ho, hb⟩
  rw [show tIf 2 2 9 [1, 2, 3, 4] 0 0 2 2 (List.replicate (2 : Int).toNat 0) (List.replicate (2 : Int).toNat 0) 0 (2 - 0) = 2 from by decide +kernel]
  rw [show tIf 2 2 9 [1, 2, 3, 4] 0 0 2 2 (List.replicate (2 : Int).toNat 0) (List.replicate (2 : Int).toNat 0) 0 (2 * 2 * 9) = 36 from by decide +kernel]
  rw [show tCode 2 2 9 [1, 2, 3, 4] 0 0 2 2 (List.replicate (2 : Int).toNat 0) (List.replicate (2 : Int).toNat 0) 0 = 0 from by decide +kernel]
  rw [show tList 2 2 9 [1, 2, 3, 4] 0 0 2 2 (List.replicate (2 : Int).toNat 0) (List.replicate (2 : Int).toNat 0) 0 = [1, 3, 4, 10] from by decide +kernel] at ho
  have H9 := hid (H1.out.grow hb ho)
  obtain ⟨v8g, v8c, rfl⟩ := ho.pos (by decide)
  clear ho hb
  obtain ⟨D10, hD10⟩ : ∃ D, w7.heap.size = D := ⟨_, rfl⟩
  go_upto_region 3 with fail
  have H11 := hid (show St B W [.cells D10 #[.int .i64 2, .int .i64 2, .int .i64 36, .slice (some ⟨v8g, 0, none⟩) 4 v8c] 26, .own (.slice (some ⟨v8g, 0, none⟩) 4 v8c) ([1, 3, 4, 10]), .cells (B + 1) #[.int .i64 2, .int .i64 2, .int .i64 9, .slice (some ⟨B, 0, none⟩) 4 4] 26, .cells B #[.int .i64 1, .int .i64 2, .int .i64 3, .int .i64 4] 3] [] (w7.alloc (.cells #[.int .i64 2, .int .i64 2, .int .i64 36, .slice (some ⟨v8g, 0, none⟩) 4 v8c] 26)) from (H9.out.alloc #[.int .i64 2, .int .i64 2, .int .i64 36, .slice (some ⟨v8g, 0, none⟩) 4 v8c] 26 hD10))
  first | refine gen_code H11.out ?_ | refine gen_list H11.out ?_ | refine gen_calls H11.out ?_
  intro w12 hG
  clear H11
  have H11 := hid hG
  clear hG
  clear hD10
  have z13 := H11.out.cell 0 rfl 0 rfl
  have z14 := H11.out.cell 0 rfl 1 rfl
  have z15 := H11.out.cell 0 rfl 2 rfl
  have z16 := H11.out.cell 0 rfl 3 rfl
  go_wp2_with fail
  clear z13 z14 z15 z16
  refine (isum_any _ _ _ _ _ _ [1, 3, 4, 10] _ _ _ _ _ (H11.out.slc 1 rfl)).mono ?_
  rintro e w17 ⟨rfl, hb⟩
  have H18 := hid (H11.out.call hb)
  clear hb
  rw [show sVal 2 2 36 [1, 3, 4, 10] 1 1 2 2 = 4 from by decide +kernel, show sCode 2 2 36 [1, 3, 4, 10] 1 1 2 2 = 0 from by decide +kernel]
  obtain ⟨D19, hD19⟩ : ∃ D, w17.heap.size = D := ⟨_, rfl⟩
  have z20 := H18.out.cell 2 rfl 0 rfl
  have z21 := H18.out.cell 2 rfl 1 rfl
  have z22 := H18.out.cell 2 rfl 2 rfl
  have z23 := H18.out.cell 2 rfl 3 rfl
  go_wp2_with fail
  clear z20 z21 z22 z23
  have H24 := hid (show St B W [.cells (D19 + 1) #[.int .i64 0] 3, .cells D19 #[.int .i64 1, .int .i64 4] 3, .cells D10 #[.int .i64 2, .int .i64 2, .int .i64 36, .slice (some ⟨v8g, 0, none⟩) 4 v8c] 26, .own (.slice (some ⟨v8g, 0, none⟩) 4 v8c) ([1, 3, 4, 10]), .cells (B + 1) #[.int .i64 2, .int .i64 2, .int .i64 9, .slice (some ⟨B, 0, none⟩) 4 4] 26, .cells B #[.int .i64 1, .int .i64 2, .int .i64 3, .int .i64 4] 3] [] ((w17.alloc (.cells #[.int .i64 1, .int .i64 4] 3)).alloc (.cells #[.int .i64 0] 3)) from ((H18.out.alloc #[.int .i64 1, .int .i64 4] 3 hD19).alloc #[.int .i64 0] 3 (by first | exact hD19 | simp [hD19])))
  first | refine gen_code H24.out ?_ | refine gen_list H24.out ?_ | refine gen_calls H24.out ?_
  intro w25 hG
  clear H24
  have H24 := hid hG
  clear hG
  clear hD19
  refine (itile_any _ _ _ _ _ _ [1, 2, 3, 4] _ _ _ _ _ _ _ [1, 4] _ _ _ [0] _ _ (H24.out.lit 5 [1, 2, 3, 4] rfl (by simp)) (H24.out.lit 1 [1, 4] rfl (by simp)) (H24.out.lit 0 [0] rfl (by simp))).mono ?_
  rintro e w26 ⟨v27, rfl, ho, hb⟩
  rw [show tIf 2 2 9 [1, 2, 3, 4] 1 0 2 2 [1, 4] [0] 0 (2 - 1) = 1 from by decide +kernel]
  rw [show tIf 2 2 9 [1, 2, 3, 4] 1 0 2 2 [1, 4] [0] 0 (2 - 0) = 2 from by decide +kernel]
  rw [show tIf 2 2 9 [1, 2, 3, 4] 1 0 2 2 [1, 4] [0] 0 (2 * 2 * 9) = 36 from by decide +kernel]
  rw [show tCode 2 2 9 [1, 2, 3, 4] 1 0 2 2 [1, 4] [0] 0 = 0 from by decide +kernel]
  rw [show tList 2 2 9 [1, 2, 3, 4] 1 0 2 2 [1, 4] [0] 0 = [3, 10] from by decide +kernel] at ho
  have H28 := hid (H24.out.grow hb ho)
  obtain ⟨v27g, v27c, rfl⟩ := ho.pos (by decide)
  clear ho hb
  obtain ⟨D29, hD29⟩ : ∃ D, w26.heap.size = D := ⟨_, rfl⟩
  go_upto_region 5 with fail
  have H30 := hid (show St B W [.cells D29 #[.int .i64 1, .int .i64 2, .int .i64 36, .slice (some ⟨v27g, 0, none⟩) 2 v27c] 26, .own (.slice (some ⟨v27g, 0, none⟩) 2 v27c) ([3, 10]), .cells (D19 + 1) #[.int .i64 0] 3, .cells D19 #[.int .i64 1, .int .i64 4] 3, .cells D10 #[.int .i64 2, .int .i64 2, .int .i64 36, .slice (some ⟨v8g, 0, none⟩) 4 v8c] 26, .own (.slice (some ⟨v8g, 0, none⟩) 4 v8c) ([1, 3, 4, 10]), .cells (B + 1) #[.int .i64 2, .int .i64 2, .int .i64 9, .slice (some ⟨B, 0, none⟩) 4 4] 26, .cells B #[.int .i64 1, .int .i64 2, .int .i64 3, .int .i64 4] 3] [] (w26.alloc (.cells #[.int .i64 1, .int .i64 2, .int .i64 36, .slice (some ⟨v27g, 0, none⟩) 2 v27c] 26)) from (H28.out.alloc #[.int .i64 1, .int .i64 2, .int .i64 36, .slice (some ⟨v27g, 0, none⟩) 2 v27c] 26 hD29))
  first | refine gen_code H30.out ?_ | refine gen_list H30.out ?_ | refine gen_calls H30.out ?_
  intro w31 hG
  clear H30
  have H30 := hid hG
  clear hG
  clear hD29
  have g1 := (H30.out.get 5 rfl (j := 3) (by decide)).1
  have g2 := (H30.out.get 1 rfl (j := 1) (by decide)).1
  simp only [List.getD_cons_succ, List.getD_cons_zero] at g1 g2
  have z32 := H30.out.cell 4 rfl 0 rfl
  have z33 := H30.out.cell 4 rfl 1 rfl
  have z34 := H30.out.cell 4 rfl 2 rfl
  have z35 := H30.out.cell 4 rfl 3 rfl
  have z36 := H30.out.cell 0 rfl 0 rfl
  have z37 := H30.out.cell 0 rfl 1 rfl
  have z38 := H30.out.cell 0 rfl 2 rfl
  have z39 := H30.out.cell 0 rfl 3 rfl
  go_wp2_with fail
  clear z32 z33 z34 z35 z36 z37 z38 z39
  refine (icheck_any _ _ _ _).mono ?_
  rintro e w40 ⟨rfl, hb⟩
  have H41 := hid (H30.out.call hb)
  clear hb
  rw [show iCode 2 2 4294967296 = 11 from by decide +kernel]
  go_wp2_with fail
  go_ret
  exact ⟨rfl, by first | exact H41.out.below | exact H41.out.below'⟩
end Go.Proofs.Ytoojiabdgaflgaa
