/-
  Contracts of grid.Count, Tile, Of and of their references.
-/
import Derived.Test.YtekpekhdkghnmaaProg
import Derived.Test.YtekpekhdkghnmaaGridPlain
import Derived.Test.YtekpekhdkghnmaaHeap
import Derived.WalkLawsBesides
import Derived.WalkSpells
import Derived.Deep.Light
import Derived.Deep.QuietTactic
import Derived.BigQuiet
namespace Go.Proofs.Ytekpekhdkghnmaa
open Go.RowKit

set_option maxRecDepth 100000 in
set_option maxHeartbeats 1600000 in
theorem ceil_any (a b : Int) (w : World) (ha : a ≤ 1000000000000) :
    Calls Try.prog 37 #[.int .i64 a, .int .i64 b] w fun e w' => e = .returned (.int .i64 (ceilD a b)) ∧ w = w' := by
  by_cases h0 : a < 0
  · go_enter Try.func37, Try.ntmps37
    go_wp2
    go_ret
    exact ⟨ret_i (by simp [ceilD, h0]), rfl⟩
  by_cases h1 : b < 1
  · go_enter Try.func37, Try.ntmps37
    go_wp2
    go_ret
    exact ⟨ret_i (by simp [ceilD, h1]), rfl⟩
  have d0 : 0 ≤ a / b := Int.ediv_nonneg (by omega) (by omega)
  have d1 : a / b ≤ a := Int.ediv_le_self _ (by omega)
  have m1 := Int.emod_nonneg a (b := b) (by omega)
  go_enter Try.func37, Try.ntmps37
  go_wp2
  all_goals go_ret
  all_goals refine ⟨ret_i ?_, rfl⟩
  all_goals (try simp only [bne_iff_ne, bne_eq_false_iff_eq, ne_eq] at *)
  all_goals go_light
  all_goals (unfold ceilD; rw [if_neg (by omega), if_neg (by omega)]; split <;> first | rfl | omega)

set_option maxRecDepth 100000 in
set_option maxHeartbeats 1600000 in
theorem count_any (w h tw th : Int) (W : World) :
    Calls Try.prog 24 #[.int .i64 w, .int .i64 h, .int .i64 tw, .int .i64 th] W fun e w' => e = .returned (.tuple #[.int .i64 (gNx w h tw th), .int .i64 (gNy w h tw th)]) ∧ W = w' := by
  cases hg : gOk w h tw th with
  | true =>
    have HG := hid hg
    obtain ⟨g1, g2, g3, g4, g5, g6, g7, g8⟩ := gOk_iff.1 hg
    go_enter Try.func24, Try.ntmps24
    go_wp2_with (first | (go_at_call 37; refine (ceil_any _ _ _ (by omega)).mono ?_; rintro e w' ⟨rfl, rfl⟩))
    go_ret2
    exact ⟨ret_ii (gN HG.out).1.symm (gN HG.out).2.symm, rfl⟩
  | false =>
    have HG := hid hg
    have HN : Hid (¬ (1 ≤ w ∧ w ≤ 128 ∧ 1 ≤ h ∧ h ≤ 128 ∧ 1 ≤ tw ∧ tw ≤ 64 ∧ 1 ≤ th ∧ th ≤ 64)) := fun c => by rw [gOk_iff.2 c] at hg; simp at hg
    clear hg
    go_enter Try.func24, Try.ntmps24
    go_wp2_with (first | (go_at_call 37; refine (ceil_any _ _ _ (by omega)).mono ?_; rintro e w' ⟨rfl, rfl⟩))
    all_goals first
      | (exfalso; have := HN.out; go_light; omega)
      | (go_ret2; exact ⟨ret_ii (gN_no HG.out).1.symm (gN_no HG.out).2.symm, rfl⟩)

set_option maxRecDepth 100000 in
set_option maxHeartbeats 1600000 in
theorem of_any (w h tw th x y : Int) (W : World) :
    Calls Try.prog 23 #[.int .i64 w, .int .i64 h, .int .i64 tw, .int .i64 th, .int .i64 x, .int .i64 y] W fun e w' => e = .returned (.tuple #[.int .i64 (gOf w h tw th x y), .bool (gOfOk w h tw th x y)]) ∧ ∃ n, w' = W.drewN n := by
  cases hg : gOk w h tw th with
  | false =>
    obtain ⟨z1, z2⟩ := gN_no hg
    have N : Hid (gOfOk w h tw th x y = false) := by simp [gOfOk, hg, Hid]
    clear hg
    go_enter Try.func23, Try.ntmps23
    go_wp2_with (first | (go_at_call 24; refine (count_any _ _ _ _ _).mono ?_; rintro e w' ⟨rfl, rfl⟩))
    go_ret2
    exact ⟨ret_ib (by simp [gOf, N.out]) N.out.symm, 0, rfl⟩
  | true =>
    have HG := hid hg
    obtain ⟨n1, n2, n3, n4, _, _, _, _⟩ := gN_bd hg
    obtain ⟨g1, g2, g3, g4, g5, g6, g7, g8⟩ := gOk_iff.1 hg
    have e1 : (gNx w h tw th == 0) = false := by simp; omega
    have e2 : (gNy w h tw th == 0) = false := by simp; omega
    clear hg
    by_cases hx : 0 ≤ x ∧ x < w ∧ 0 ≤ y ∧ y < h
    · have N : Hid (gOfOk w h tw th x y = true) := gOfOk_iff.2 ⟨HG.out, hx⟩
      obtain ⟨x1, x2, x3, x4⟩ := hx
      have d1 : 0 ≤ y / th := Int.ediv_nonneg (by omega) (by omega)
      have d2 : y / th ≤ y := Int.ediv_le_self _ (by omega)
      have d3 : 0 ≤ x / tw := Int.ediv_nonneg (by omega) (by omega)
      have d4 : x / tw ≤ x := Int.ediv_le_self _ (by omega)
      have p1 : 0 ≤ y / th * gNx w h tw th := Int.mul_nonneg d1 (by omega)
      have p2 : y / th * gNx w h tw th ≤ 128 * 128 := Int.mul_le_mul (by omega) n2 (by omega) (by omega)
      go_enter Try.func23, Try.ntmps23
      go_wp2_with (first | (go_at_call 24; refine (count_any _ _ _ _ _).mono ?_; rintro e w' ⟨rfl, rfl⟩))
      have dne : th ≠ 0 := by omega
      have dne' : tw ≠ 0 := by omega
      go_quiet (fail)
      go_wp2
      go_ret2
      exact ⟨ret_ib (by simp [gOf, N.out]) N.out.symm, _, rfl⟩
    · have N : Hid (gOfOk w h tw th x y = false) := by rw [Hid, ← Bool.not_eq_true, gOfOk_iff]; exact fun c => hx c.2
      have HX := hid hx
      clear hx
      go_enter Try.func23, Try.ntmps23
      go_wp2_with (first | (go_at_call 24; refine (count_any _ _ _ _ _).mono ?_; rintro e w' ⟨rfl, rfl⟩))
      all_goals first
        | (exfalso; have := HX.out; go_light; omega)
        | (go_ret2; exact ⟨ret_ib (by simp [gOf, N.out]) N.out.symm, 0, rfl⟩)

set_option maxRecDepth 100000 in
set_option maxHeartbeats 1600000 in
theorem tile_any (w h tw th i : Int) (W : World) (hi : -9223372036854775808 ≤ i ∧ i ≤ 9223372036854775807) :
    Calls Try.prog 28 #[.int .i64 w, .int .i64 h, .int .i64 tw, .int .i64 th, .int .i64 i] W fun e w' => e = .returned (.tuple #[.agg #[.int .i64 (gT0 w h tw th i), .int .i64 (gT1 w h tw th i), .int .i64 (gT2 w h tw th i), .int .i64 (gT3 w h tw th i)], .bool (gTok w h tw th i)]) ∧ Below W.heap.size W w' := by
  obtain ⟨B, hB⟩ : ∃ B, W.heap.size = B := ⟨_, rfl⟩
  obtain ⟨i1, i2⟩ := hi
  cases ht : gTok w h tw th i with
  | true =>
    have HT := hid ht
    obtain ⟨t1, t2, t3, t4, t5, t6, t7, t8⟩ := tile_bd ht
    obtain ⟨hg, i0, im⟩ := gTok_iff.1 ht
    obtain ⟨n1, n2, n3, n4, _, _, _, _⟩ := gN_bd hg
    obtain ⟨g1, g2, g3, g4, g5, g6, g7, g8⟩ := gOk_iff.1 hg
    have p1 : gNx w h tw th * gNy w h tw th ≤ 128 * 128 := Int.mul_le_mul n2 n4 (by omega) (by omega)
    have HI := hid im
    have e0 : Hid (gT0 w h tw th i = i % gNx w h tw th * tw ∧ gT1 w h tw th i = i / gNx w h tw th * th ∧ gT2 w h tw th i = min (i % gNx w h tw th * tw + tw) w ∧ gT3 w h tw th i = min (i / gNx w h tw th * th + th) h) := by simp [gT0, gT1, gT2, gT3, ht, Hid]
    have emin : ∀ x y : Int, (if y < x then y else x) = min x y := fun x y => by omega
    clear hg ht
    go_enter Try.func28, Try.ntmps28
    go_wp2_with (first | (go_at_call 24; refine (count_any _ _ _ _ _).mono ?_; rintro e w' ⟨rfl, rfl⟩))
    go_quiet (fail)
    go_wp2
    obtain ⟨d0, d1, d2, d3⟩ := e0.out
    obtain ⟨q0, q1, q2, q3⟩ := set4_cells (x := .int .i64 (i % gNx w h tw th * tw)) (y := .int .i64 (i / gNx w h tw th * th)) (z := .int .i64 (min (i % gNx w h tw th * tw + tw) w)) (u := .int .i64 (min (i / gNx w h tw th * th + th) h)) (w := (W.alloc (.cells #[.int .i64 0, .int .i64 0, .int .i64 0, .int .i64 0] 45)).drewN nq) (alloc_at _ hB)
    refine bodyPost_ret (v := .tuple #[.agg #[.int .i64 (i % gNx w h tw th * tw), .int .i64 (i / gNx w h tw th * th), .int .i64 (min (i % gNx w h tw th * tw + tw) w), .int .i64 (min (i / gNx w h tw th * th + th) h)], .bool true]) ?_ rfl ⟨by rw [d0, d1, d2, d3], ?_⟩
    · unfold set4 at q0 q1 q2 q3
      simp [results, Try.results28, go_sem, q0, q1, q2, q3]
    · rw [hB]; first | exact (Since.set4 (b := B) ((Since.self hB).alloc _) (by omega)).below | exact (Since.set4 (b := B) (((Since.self hB).alloc _).drewN nq) (by omega)).below | exact (Since.set4 (b := B) ((Since.self hB).alloc _) (by omega)).all hB | exact (Since.set4 (b := B) (((Since.self hB).alloc _).drewN _) (by omega)).all hB
  | false =>
    have HN : Hid (gOk w h tw th = true → ¬ (0 ≤ i ∧ i < gNx w h tw th * gNy w h tw th)) := fun hg c => by rw [gTok_iff.2 ⟨hg, c⟩] at ht; simp at ht
    have e0 : Hid (gT0 w h tw th i = 0 ∧ gT1 w h tw th i = 0 ∧ gT2 w h tw th i = 0 ∧ gT3 w h tw th i = 0) := by simp [gT0, gT1, gT2, gT3, ht, Hid]
    clear ht
    cases hg : gOk w h tw th with
    | false =>
      obtain ⟨z1, z2⟩ := gN_no hg
      clear hg HN
      by_cases hi0 : i < 0
      all_goals
        go_enter Try.func28, Try.ntmps28
        go_wp2_with (first | (go_at_call 24; refine (count_any _ _ _ _ _).mono ?_; rintro e w' ⟨rfl, rfl⟩))
        obtain ⟨d0, d1, d2, d3⟩ := e0.out
        have Z := alloc_at (.cells #[.int .i64 0, .int .i64 0, .int .i64 0, .int .i64 0] 45) hB
        have q0 := cell_of (i := 0) Z rfl
        have q1 := cell_of (i := 1) Z rfl
        have q2 := cell_of (i := 2) Z rfl
        have q3 := cell_of (i := 3) Z rfl
        refine bodyPost_ret (v := .tuple #[.agg #[.int .i64 (0), .int .i64 (0), .int .i64 (0), .int .i64 (0)], .bool false]) ?_ rfl ⟨by rw [d0, d1, d2, d3], ?_⟩
        · simp [results, Try.results28, go_sem, q0, q1, q2, q3]
        · exact below_self _ _
    | true =>
      obtain ⟨n1, n2, n3, n4, _, _, _, _⟩ := gN_bd hg
      have p1 : gNx w h tw th * gNy w h tw th ≤ 128 * 128 := Int.mul_le_mul n2 n4 (by omega) (by omega)
      have p0 : 0 ≤ gNx w h tw th * gNy w h tw th := Int.mul_nonneg (by omega) (by omega)
      have hn := HN.out hg
      have hn' : i < 0 ∨ (0 ≤ i ∧ gNx w h tw th * gNy w h tw th ≤ i) := by omega
      clear hn hg HN
      rcases hn' with hn | ⟨hn, hn'⟩
      all_goals
        go_enter Try.func28, Try.ntmps28
        go_wp2_with (first | (go_at_call 24; refine (count_any _ _ _ _ _).mono ?_; rintro e w' ⟨rfl, rfl⟩))
        obtain ⟨d0, d1, d2, d3⟩ := e0.out
        have Z := alloc_at (.cells #[.int .i64 0, .int .i64 0, .int .i64 0, .int .i64 0] 45) hB
        have q0 := cell_of (i := 0) Z rfl
        have q1 := cell_of (i := 1) Z rfl
        have q2 := cell_of (i := 2) Z rfl
        have q3 := cell_of (i := 3) Z rfl
        refine bodyPost_ret (v := .tuple #[.agg #[.int .i64 (0), .int .i64 (0), .int .i64 (0), .int .i64 (0)], .bool false]) ?_ rfl ⟨by rw [d0, d1, d2, d3], ?_⟩
        · simp [results, Try.results28, go_sem, q0, q1, q2, q3]
        · exact below_self _ _

set_option maxRecDepth 100000 in
set_option maxHeartbeats 1600000 in
theorem qceil_any (a b : Int) (w : World) (ha : a ≤ 1000000000000) :
    Calls Try.prog 47 #[.int .i64 a, .int .i64 b] w fun e w' => e = .returned (.int .i64 (ceilD a b)) ∧ w = w' := by
  by_cases h0 : a < 0
  · go_enter Try.func47, Try.ntmps47
    go_wp2
    go_ret
    exact ⟨ret_i (by simp [ceilD, h0]), rfl⟩
  by_cases h1 : b < 1
  · go_enter Try.func47, Try.ntmps47
    go_wp2
    go_ret
    exact ⟨ret_i (by simp [ceilD, h1]), rfl⟩
  have d0 : 0 ≤ a / b := Int.ediv_nonneg (by omega) (by omega)
  have d1 : a / b ≤ a := Int.ediv_le_self _ (by omega)
  have m1 := Int.emod_nonneg a (b := b) (by omega)
  go_enter Try.func47, Try.ntmps47
  go_wp2
  all_goals go_ret
  all_goals refine ⟨ret_i ?_, rfl⟩
  all_goals (try simp only [bne_iff_ne, bne_eq_false_iff_eq, ne_eq] at *)
  all_goals go_light
  all_goals (unfold ceilD; rw [if_neg (by omega), if_neg (by omega)]; split <;> first | rfl | omega)

set_option maxRecDepth 100000 in
set_option maxHeartbeats 1600000 in
theorem qfine_any (w h tw th : Int) (W : World) :
    Calls Try.prog 46 #[.int .i64 w, .int .i64 h, .int .i64 tw, .int .i64 th] W fun e w' => e = .returned (.bool (gOk w h tw th)) ∧ W = w' := by
  go_enter Try.func46, Try.ntmps46
  go_wp2
  all_goals go_ret
  all_goals refine ⟨ret_b ?_, rfl⟩
  all_goals go_light
  all_goals (refine bool_of_iff ?_; rw [gOk_iff]; simp; try omega)

set_option maxRecDepth 100000 in
set_option maxHeartbeats 1600000 in
theorem qcount_any (w h tw th : Int) (W : World) :
    Calls Try.prog 38 #[.int .i64 w, .int .i64 h, .int .i64 tw, .int .i64 th] W fun e w' => e = .returned (.tuple #[.int .i64 (gNx w h tw th), .int .i64 (gNy w h tw th)]) ∧ W = w' := by
  cases hg : gOk w h tw th with
  | true =>
    have HG := hid hg
    obtain ⟨g1, g2, g3, g4, g5, g6, g7, g8⟩ := gOk_iff.1 hg
    go_enter Try.func38, Try.ntmps38
    go_wp2_with (first | (go_at_call 47; refine (qceil_any _ _ _ (by omega)).mono ?_; rintro e w' ⟨rfl, rfl⟩) | (go_at_call 46; refine (qfine_any _ _ _ _ _).mono ?_; rintro e w' ⟨rfl, rfl⟩))
    go_ret2
    exact ⟨ret_ii (gN HG.out).1.symm (gN HG.out).2.symm, rfl⟩
  | false =>
    have HG := hid hg
    have HN : Hid (¬ (1 ≤ w ∧ w ≤ 128 ∧ 1 ≤ h ∧ h ≤ 128 ∧ 1 ≤ tw ∧ tw ≤ 64 ∧ 1 ≤ th ∧ th ≤ 64)) := fun c => by rw [gOk_iff.2 c] at hg; simp at hg
    go_enter Try.func38, Try.ntmps38
    go_wp2_with (first | (go_at_call 47; refine (qceil_any _ _ _ (by omega)).mono ?_; rintro e w' ⟨rfl, rfl⟩) | (go_at_call 46; refine (qfine_any _ _ _ _ _).mono ?_; rintro e w' ⟨rfl, rfl⟩))
    all_goals first
      | (exfalso; have := HN.out; go_light; omega)
      | (go_ret2; exact ⟨ret_ii (gN_no HG.out).1.symm (gN_no HG.out).2.symm, rfl⟩)

set_option maxRecDepth 100000 in
set_option maxHeartbeats 1600000 in
theorem qof_any (w h tw th x y : Int) (W : World) :
    Calls Try.prog 40 #[.int .i64 w, .int .i64 h, .int .i64 tw, .int .i64 th, .int .i64 x, .int .i64 y] W fun e w' => e = .returned (.tuple #[.int .i64 (gOf w h tw th x y), .bool (gOfOk w h tw th x y)]) ∧ ∃ n, w' = W.drewN n := by
  cases hg : gOk w h tw th with
  | false =>
    obtain ⟨z1, z2⟩ := gN_no hg
    have N : Hid (gOfOk w h tw th x y = false) := by simp [gOfOk, hg, Hid]
    clear hg
    go_enter Try.func40, Try.ntmps40
    go_wp2_with (first | (go_at_call 38; refine (qcount_any _ _ _ _ _).mono ?_; rintro e w' ⟨rfl, rfl⟩))
    go_ret2
    exact ⟨ret_ib (by simp [gOf, N.out]) N.out.symm, 0, rfl⟩
  | true =>
    have HG := hid hg
    obtain ⟨n1, n2, n3, n4, _, _, _, _⟩ := gN_bd hg
    obtain ⟨g1, g2, g3, g4, g5, g6, g7, g8⟩ := gOk_iff.1 hg
    have e1 : (gNx w h tw th == 0) = false := by simp; omega
    have e2 : (gNy w h tw th == 0) = false := by simp; omega
    clear hg
    by_cases hx : 0 ≤ x ∧ x < w ∧ 0 ≤ y ∧ y < h
    · have N : Hid (gOfOk w h tw th x y = true) := gOfOk_iff.2 ⟨HG.out, hx⟩
      obtain ⟨x1, x2, x3, x4⟩ := hx
      have d1 : 0 ≤ y / th := Int.ediv_nonneg (by omega) (by omega)
      have d2 : y / th ≤ y := Int.ediv_le_self _ (by omega)
      have d3 : 0 ≤ x / tw := Int.ediv_nonneg (by omega) (by omega)
      have d4 : x / tw ≤ x := Int.ediv_le_self _ (by omega)
      have p1 : 0 ≤ y / th * gNx w h tw th := Int.mul_nonneg d1 (by omega)
      have p2 : y / th * gNx w h tw th ≤ 128 * 128 := Int.mul_le_mul (by omega) n2 (by omega) (by omega)
      go_enter Try.func40, Try.ntmps40
      go_wp2_with (first | (go_at_call 38; refine (qcount_any _ _ _ _ _).mono ?_; rintro e w' ⟨rfl, rfl⟩))
      have dne : th ≠ 0 := by omega
      have dne' : tw ≠ 0 := by omega
      go_quiet (fail)
      go_wp2
      go_ret2
      exact ⟨ret_ib (by simp [gOf, N.out]) N.out.symm, _, rfl⟩
    · have N : Hid (gOfOk w h tw th x y = false) := by rw [Hid, ← Bool.not_eq_true, gOfOk_iff]; exact fun c => hx c.2
      have HX := hid hx
      clear hx
      go_enter Try.func40, Try.ntmps40
      go_wp2_with (first | (go_at_call 38; refine (qcount_any _ _ _ _ _).mono ?_; rintro e w' ⟨rfl, rfl⟩))
      all_goals first
        | (exfalso; have := HX.out; go_light; omega)
        | (go_ret2; exact ⟨ret_ib (by simp [gOf, N.out]) N.out.symm, 0, rfl⟩)

set_option maxRecDepth 100000 in
set_option maxHeartbeats 1600000 in
theorem qtile_any (w h tw th i : Int) (W : World) (hi : -9223372036854775808 ≤ i ∧ i ≤ 9223372036854775807) :
    Calls Try.prog 39 #[.int .i64 w, .int .i64 h, .int .i64 tw, .int .i64 th, .int .i64 i] W fun e w' => e = .returned (.tuple #[.agg #[.int .i64 (gT0 w h tw th i), .int .i64 (gT1 w h tw th i), .int .i64 (gT2 w h tw th i), .int .i64 (gT3 w h tw th i)], .bool (gTok w h tw th i)]) ∧ Below W.heap.size W w' := by
  obtain ⟨B, hB⟩ : ∃ B, W.heap.size = B := ⟨_, rfl⟩
  obtain ⟨i1, i2⟩ := hi
  cases ht : gTok w h tw th i with
  | true =>
    have HT := hid ht
    obtain ⟨t1, t2, t3, t4, t5, t6, t7, t8⟩ := tile_bd ht
    obtain ⟨hg, i0, im⟩ := gTok_iff.1 ht
    obtain ⟨n1, n2, n3, n4, _, _, _, _⟩ := gN_bd hg
    obtain ⟨g1, g2, g3, g4, g5, g6, g7, g8⟩ := gOk_iff.1 hg
    have p1 : gNx w h tw th * gNy w h tw th ≤ 128 * 128 := Int.mul_le_mul n2 n4 (by omega) (by omega)
    have HI := hid im
    have e0 : Hid (gT0 w h tw th i = i % gNx w h tw th * tw ∧ gT1 w h tw th i = i / gNx w h tw th * th ∧ gT2 w h tw th i = min (i % gNx w h tw th * tw + tw) w ∧ gT3 w h tw th i = min (i / gNx w h tw th * th + th) h) := by simp [gT0, gT1, gT2, gT3, ht, Hid]
    have emin : ∀ x y : Int, (if y < x then y else x) = min x y := fun x y => by omega
    clear hg ht
    go_enter Try.func39, Try.ntmps39
    go_wp2_with (first | (go_at_call 38; refine (qcount_any _ _ _ _ _).mono ?_; rintro e w' ⟨rfl, rfl⟩))
    go_quiet (fail)
    go_wp2
    obtain ⟨d0, d1, d2, d3⟩ := e0.out
    obtain ⟨q0, q1, q2, q3⟩ := set4_cells (x := .int .i64 (i % gNx w h tw th * tw)) (y := .int .i64 (i / gNx w h tw th * th)) (z := .int .i64 (min (i % gNx w h tw th * tw + tw) w)) (u := .int .i64 (min (i / gNx w h tw th * th + th) h)) (w := (W.alloc (.cells #[.int .i64 0, .int .i64 0, .int .i64 0, .int .i64 0] 45)).drewN nq) (alloc_at _ hB)
    refine bodyPost_ret (v := .tuple #[.agg #[.int .i64 (i % gNx w h tw th * tw), .int .i64 (i / gNx w h tw th * th), .int .i64 (min (i % gNx w h tw th * tw + tw) w), .int .i64 (min (i / gNx w h tw th * th + th) h)], .bool true]) ?_ rfl ⟨by rw [d0, d1, d2, d3], ?_⟩
    · unfold set4 at q0 q1 q2 q3
      simp [results, Try.results39, go_sem, q0, q1, q2, q3]
    · rw [hB]; first | exact (Since.set4 (b := B) ((Since.self hB).alloc _) (by omega)).below | exact (Since.set4 (b := B) (((Since.self hB).alloc _).drewN nq) (by omega)).below | exact (Since.set4 (b := B) ((Since.self hB).alloc _) (by omega)).all hB | exact (Since.set4 (b := B) (((Since.self hB).alloc _).drewN _) (by omega)).all hB
  | false =>
    have HN : Hid (gOk w h tw th = true → ¬ (0 ≤ i ∧ i < gNx w h tw th * gNy w h tw th)) := fun hg c => by rw [gTok_iff.2 ⟨hg, c⟩] at ht; simp at ht
    have e0 : Hid (gT0 w h tw th i = 0 ∧ gT1 w h tw th i = 0 ∧ gT2 w h tw th i = 0 ∧ gT3 w h tw th i = 0) := by simp [gT0, gT1, gT2, gT3, ht, Hid]
    clear ht
    cases hg : gOk w h tw th with
    | false =>
      obtain ⟨z1, z2⟩ := gN_no hg
      clear hg HN
      by_cases hi0 : i < 0
      all_goals
        go_enter Try.func39, Try.ntmps39
        go_wp2_with (first | (go_at_call 38; refine (qcount_any _ _ _ _ _).mono ?_; rintro e w' ⟨rfl, rfl⟩))
        obtain ⟨d0, d1, d2, d3⟩ := e0.out
        have Z := alloc_at (.cells #[.int .i64 0, .int .i64 0, .int .i64 0, .int .i64 0] 45) hB
        have q0 := cell_of (i := 0) Z rfl
        have q1 := cell_of (i := 1) Z rfl
        have q2 := cell_of (i := 2) Z rfl
        have q3 := cell_of (i := 3) Z rfl
        refine bodyPost_ret (v := .tuple #[.agg #[.int .i64 (0), .int .i64 (0), .int .i64 (0), .int .i64 (0)], .bool false]) ?_ rfl ⟨by rw [d0, d1, d2, d3], ?_⟩
        · simp [results, Try.results39, go_sem, q0, q1, q2, q3]
        · exact below_self _ _
    | true =>
      obtain ⟨n1, n2, n3, n4, _, _, _, _⟩ := gN_bd hg
      have p1 : gNx w h tw th * gNy w h tw th ≤ 128 * 128 := Int.mul_le_mul n2 n4 (by omega) (by omega)
      have p0 : 0 ≤ gNx w h tw th * gNy w h tw th := Int.mul_nonneg (by omega) (by omega)
      have hn := HN.out hg
      have hn' : i < 0 ∨ (0 ≤ i ∧ gNx w h tw th * gNy w h tw th ≤ i) := by omega
      clear hn hg HN
      rcases hn' with hn | ⟨hn, hn'⟩
      all_goals
        go_enter Try.func39, Try.ntmps39
        go_wp2_with (first | (go_at_call 38; refine (qcount_any _ _ _ _ _).mono ?_; rintro e w' ⟨rfl, rfl⟩))
        obtain ⟨d0, d1, d2, d3⟩ := e0.out
        have Z := alloc_at (.cells #[.int .i64 0, .int .i64 0, .int .i64 0, .int .i64 0] 45) hB
        have q0 := cell_of (i := 0) Z rfl
        have q1 := cell_of (i := 1) Z rfl
        have q2 := cell_of (i := 2) Z rfl
        have q3 := cell_of (i := 3) Z rfl
        refine bodyPost_ret (v := .tuple #[.agg #[.int .i64 (0), .int .i64 (0), .int .i64 (0), .int .i64 (0)], .bool false]) ?_ rfl ⟨by rw [d0, d1, d2, d3], ?_⟩
        · simp [results, Try.results39, go_sem, q0, q1, q2, q3]
        · exact below_self _ _

end Go.Proofs.Ytekpekhdkghnmaa
