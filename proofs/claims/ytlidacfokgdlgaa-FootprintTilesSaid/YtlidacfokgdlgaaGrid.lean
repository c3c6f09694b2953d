/-
  Contracts of grid.Count, Tile, Of and of their references.
-/
import Derived.Test.YtlidacfokgdlgaaProg
import Derived.Test.YtlidacfokgdlgaaKI
import Derived.Test.YtlidacfokgdlgaaKA
import Derived.WalkLawsBesides
import Derived.WalkSpells
import Derived.Deep.Light
import Derived.Deep.QuietTactic
import Derived.BigQuiet
namespace Go.Proofs.Ytlidacfokgdlgaa
open Go.RowKit

set_option maxRecDepth 100000 in
set_option maxHeartbeats 1600000 in
theorem ceil_any (a b : Int) (w : World) (ha : a ≤ 1000000000000) :
    Calls Try.prog 36 #[.int .i64 a, .int .i64 b] w fun e w' => e = .returned (.int .i64 (ceilD a b)) ∧ w = w' := by
  by_cases h0 : a < 0
  · go_enter Try.func36, Try.ntmps36
    go_wp2
    go_ret
    exact ⟨ret_i (by simp [ceilD, h0]), rfl⟩
  by_cases h1 : b < 1
  · go_enter Try.func36, Try.ntmps36
    go_wp2
    go_ret
    exact ⟨ret_i (by simp [ceilD, h1]), rfl⟩
  have d0 : 0 ≤ a / b := Int.ediv_nonneg (by omega) (by omega)
  have d1 : a / b ≤ a := Int.ediv_le_self _ (by omega)
  have m1 := Int.emod_nonneg a (b := b) (by omega)
  go_enter Try.func36, Try.ntmps36
  go_wp2
  all_goals go_ret
  all_goals refine ⟨ret_i ?_, rfl⟩
  all_goals (try simp only [bne_iff_ne, bne_eq_false_iff_eq, ne_eq] at *)
  all_goals go_light
  all_goals (unfold ceilD; rw [if_neg (by omega), if_neg (by omega)]; split <;> first | rfl | omega)

set_option maxRecDepth 100000 in
set_option maxHeartbeats 1600000 in
theorem count_any (w h tw th : Int) (W : World) :
    Calls Try.prog 22 #[.int .i64 w, .int .i64 h, .int .i64 tw, .int .i64 th] W fun e w' => e = .returned (.tuple #[.int .i64 (gNx w h tw th), .int .i64 (gNy w h tw th)]) ∧ W = w' := by
  cases hg : gOk w h tw th with
  | true =>
    have HG := hid hg
    obtain ⟨g1, g2, g3, g4, g5, g6, g7, g8⟩ := gOk_iff.1 hg
    go_enter Try.func22, Try.ntmps22
    go_wp2_with (first | (go_at_call 36; refine (ceil_any _ _ _ (by omega)).mono ?_; rintro e w' ⟨rfl, rfl⟩))
    go_ret2
    exact ⟨ret_ii (gN HG.out).1.symm (gN HG.out).2.symm, rfl⟩
  | false =>
    have HG := hid hg
    have HN : Hid (¬ (1 ≤ w ∧ w ≤ 128 ∧ 1 ≤ h ∧ h ≤ 128 ∧ 1 ≤ tw ∧ tw ≤ 64 ∧ 1 ≤ th ∧ th ≤ 64)) := fun c => by rw [gOk_iff.2 c] at hg; simp at hg
    clear hg
    go_enter Try.func22, Try.ntmps22
    go_wp2_with (first | (go_at_call 36; refine (ceil_any _ _ _ (by omega)).mono ?_; rintro e w' ⟨rfl, rfl⟩))
    all_goals first
      | (exfalso; have := HN.out; go_light; omega)
      | (go_ret2; exact ⟨ret_ii (gN_no HG.out).1.symm (gN_no HG.out).2.symm, rfl⟩)

set_option maxRecDepth 100000 in
set_option maxHeartbeats 1600000 in
theorem tile_any (w h tw th i : Int) (W : World) (hi : -9223372036854775808 ≤ i ∧ i ≤ 9223372036854775807) :
    Calls Try.prog 23 #[.int .i64 w, .int .i64 h, .int .i64 tw, .int .i64 th, .int .i64 i] W fun e w' => e = .returned (.tuple #[.agg #[.int .i64 (gT0 w h tw th i), .int .i64 (gT1 w h tw th i), .int .i64 (gT2 w h tw th i), .int .i64 (gT3 w h tw th i)], .bool (gTok w h tw th i)]) ∧ Below W.heap.size W w' := by
  obtain ⟨B, hB⟩ : ∃ B, W.heap.size = B := ⟨_, rfl⟩
  obtain ⟨i1, i2⟩ := hi
  cases ht : gTok w h tw th i with
  | true =>
    have HT := hid ht
    obtain ⟨t1, t2, t3, t4, t5, t6, t7, t8⟩ := tile_bd ht
    obtain ⟨hg, i0, im⟩ := gTok_iff.1 ht
    obtain ⟨n1, n2, n3, n4, _, _, _, _⟩ := gN_bd hg
    obtain ⟨g1, g2, g3, g4, g5, g6, g7, g8⟩ := gOk_iff.1 hg
    have p1 : gNx w h tw th * gNy w h tw th ≤ 128 * 128 := Int.mul_le_mul n2 n4 (by omega) (by omega)
    have HI := hid im
    have e0 : Hid (gT0 w h tw th i = i % gNx w h tw th * tw ∧ gT1 w h tw th i = i / gNx w h tw th * th ∧ gT2 w h tw th i = min (i % gNx w h tw th * tw + tw) w ∧ gT3 w h tw th i = min (i / gNx w h tw th * th + th) h) := by simp [gT0, gT1, gT2, gT3, ht, Hid]
    have emin : ∀ x y : Int, (if y < x then y else x) = min x y := fun x y => by omega
    clear hg ht
    go_enter Try.func23, Try.ntmps23
    go_wp2_with (first | (go_at_call 22; refine (count_any _ _ _ _ _).mono ?_; rintro e w' ⟨rfl, rfl⟩))
    go_quiet (fail)
    go_wp2
    obtain ⟨d0, d1, d2, d3⟩ := e0.out
    obtain ⟨q0, q1, q2, q3⟩ := set4_cells (x := .int .i64 (i % gNx w h tw th * tw)) (y := .int .i64 (i / gNx w h tw th * th)) (z := .int .i64 (min (i % gNx w h tw th * tw + tw) w)) (u := .int .i64 (min (i / gNx w h tw th * th + th) h)) (w := (W.alloc (.cells #[.int .i64 0, .int .i64 0, .int .i64 0, .int .i64 0] 24)).drewN nq) (alloc_at _ hB)
    refine bodyPost_ret (v := .tuple #[.agg #[.int .i64 (i % gNx w h tw th * tw), .int .i64 (i / gNx w h tw th * th), .int .i64 (min (i % gNx w h tw th * tw + tw) w), .int .i64 (min (i / gNx w h tw th * th + th) h)], .bool true]) ?_ rfl ⟨by rw [d0, d1, d2, d3], ?_⟩
    · unfold set4 at q0 q1 q2 q3
      simp [results, Try.results23, go_sem, q0, q1, q2, q3]
    · rw [hB]; first | exact (Since.set4 (b := B) ((Since.self hB).alloc _) (by omega)).below | exact (Since.set4 (b := B) (((Since.self hB).alloc _).drewN nq) (by omega)).below | exact (Since.set4 (b := B) ((Since.self hB).alloc _) (by omega)).all hB | exact (Since.set4 (b := B) (((Since.self hB).alloc _).drewN _) (by omega)).all hB
  | false =>
    have HN : Hid (gOk w h tw th = true → ¬ (0 ≤ i ∧ i < gNx w h tw th * gNy w h tw th)) := fun hg c => by rw [gTok_iff.2 ⟨hg, c⟩] at ht; simp at ht
    have e0 : Hid (gT0 w h tw th i = 0 ∧ gT1 w h tw th i = 0 ∧ gT2 w h tw th i = 0 ∧ gT3 w h tw th i = 0) := by simp [gT0, gT1, gT2, gT3, ht, Hid]
    clear ht
    cases hg : gOk w h tw th with
    | false =>
      obtain ⟨z1, z2⟩ := gN_no hg
      clear hg HN
      by_cases hi0 : i < 0
      all_goals
        go_enter Try.func23, Try.ntmps23
        go_wp2_with (first | (go_at_call 22; refine (count_any _ _ _ _ _).mono ?_; rintro e w' ⟨rfl, rfl⟩))
        obtain ⟨d0, d1, d2, d3⟩ := e0.out
        have Z := alloc_at (.cells #[.int .i64 0, .int .i64 0, .int .i64 0, .int .i64 0] 24) hB
        have q0 := cell_of (i := 0) Z rfl
        have q1 := cell_of (i := 1) Z rfl
        have q2 := cell_of (i := 2) Z rfl
        have q3 := cell_of (i := 3) Z rfl
        refine bodyPost_ret (v := .tuple #[.agg #[.int .i64 (0), .int .i64 (0), .int .i64 (0), .int .i64 (0)], .bool false]) ?_ rfl ⟨by rw [d0, d1, d2, d3], ?_⟩
        · simp [results, Try.results23, go_sem, q0, q1, q2, q3]
        · exact below_self _ _
    | true =>
      obtain ⟨n1, n2, n3, n4, _, _, _, _⟩ := gN_bd hg
      have p1 : gNx w h tw th * gNy w h tw th ≤ 128 * 128 := Int.mul_le_mul n2 n4 (by omega) (by omega)
      have p0 : 0 ≤ gNx w h tw th * gNy w h tw th := Int.mul_nonneg (by omega) (by omega)
      have hn := HN.out hg
      have hn' : i < 0 ∨ (0 ≤ i ∧ gNx w h tw th * gNy w h tw th ≤ i) := by omega
      clear hn hg HN
      rcases hn' with hn | ⟨hn, hn'⟩
      all_goals
        go_enter Try.func23, Try.ntmps23
        go_wp2_with (first | (go_at_call 22; refine (count_any _ _ _ _ _).mono ?_; rintro e w' ⟨rfl, rfl⟩))
        obtain ⟨d0, d1, d2, d3⟩ := e0.out
        have Z := alloc_at (.cells #[.int .i64 0, .int .i64 0, .int .i64 0, .int .i64 0] 24) hB
        have q0 := cell_of (i := 0) Z rfl
        have q1 := cell_of (i := 1) Z rfl
        have q2 := cell_of (i := 2) Z rfl
        have q3 := cell_of (i := 3) Z rfl
        refine bodyPost_ret (v := .tuple #[.agg #[.int .i64 (0), .int .i64 (0), .int .i64 (0), .int .i64 (0)], .bool false]) ?_ rfl ⟨by rw [d0, d1, d2, d3], ?_⟩
        · simp [results, Try.results23, go_sem, q0, q1, q2, q3]
        · exact below_self _ _

set_option maxRecDepth 100000 in
set_option maxHeartbeats 1600000 in
theorem qceil_any (a b : Int) (w : World) (ha : a ≤ 1000000000000) :
    Calls Try.prog 49 #[.int .i64 a, .int .i64 b] w fun e w' => e = .returned (.int .i64 (ceilD a b)) ∧ w = w' := by
  by_cases h0 : a < 0
  · go_enter Try.func49, Try.ntmps49
    go_wp2
    go_ret
    exact ⟨ret_i (by simp [ceilD, h0]), rfl⟩
  by_cases h1 : b < 1
  · go_enter Try.func49, Try.ntmps49
    go_wp2
    go_ret
    exact ⟨ret_i (by simp [ceilD, h1]), rfl⟩
  have d0 : 0 ≤ a / b := Int.ediv_nonneg (by omega) (by omega)
  have d1 : a / b ≤ a := Int.ediv_le_self _ (by omega)
  have m1 := Int.emod_nonneg a (b := b) (by omega)
  go_enter Try.func49, Try.ntmps49
  go_wp2
  all_goals go_ret
  all_goals refine ⟨ret_i ?_, rfl⟩
  all_goals (try simp only [bne_iff_ne, bne_eq_false_iff_eq, ne_eq] at *)
  all_goals go_light
  all_goals (unfold ceilD; rw [if_neg (by omega), if_neg (by omega)]; split <;> first | rfl | omega)

set_option maxRecDepth 100000 in
set_option maxHeartbeats 1600000 in
theorem qfine_any (w h tw th : Int) (W : World) :
    Calls Try.prog 48 #[.int .i64 w, .int .i64 h, .int .i64 tw, .int .i64 th] W fun e w' => e = .returned (.bool (gOk w h tw th)) ∧ W = w' := by
  go_enter Try.func48, Try.ntmps48
  go_wp2
  all_goals go_ret
  all_goals refine ⟨ret_b ?_, rfl⟩
  all_goals go_light
  all_goals (refine bool_of_iff ?_; rw [gOk_iff]; simp; try omega)

set_option maxRecDepth 100000 in
set_option maxHeartbeats 1600000 in
theorem qcount_any (w h tw th : Int) (W : World) :
    Calls Try.prog 33 #[.int .i64 w, .int .i64 h, .int .i64 tw, .int .i64 th] W fun e w' => e = .returned (.tuple #[.int .i64 (gNx w h tw th), .int .i64 (gNy w h tw th)]) ∧ W = w' := by
  cases hg : gOk w h tw th with
  | true =>
    have HG := hid hg
    obtain ⟨g1, g2, g3, g4, g5, g6, g7, g8⟩ := gOk_iff.1 hg
    go_enter Try.func33, Try.ntmps33
    go_wp2_with (first | (go_at_call 49; refine (qceil_any _ _ _ (by omega)).mono ?_; rintro e w' ⟨rfl, rfl⟩) | (go_at_call 48; refine (qfine_any _ _ _ _ _).mono ?_; rintro e w' ⟨rfl, rfl⟩))
    go_ret2
    exact ⟨ret_ii (gN HG.out).1.symm (gN HG.out).2.symm, rfl⟩
  | false =>
    have HG := hid hg
    have HN : Hid (¬ (1 ≤ w ∧ w ≤ 128 ∧ 1 ≤ h ∧ h ≤ 128 ∧ 1 ≤ tw ∧ tw ≤ 64 ∧ 1 ≤ th ∧ th ≤ 64)) := fun c => by rw [gOk_iff.2 c] at hg; simp at hg
    go_enter Try.func33, Try.ntmps33
    go_wp2_with (first | (go_at_call 49; refine (qceil_any _ _ _ (by omega)).mono ?_; rintro e w' ⟨rfl, rfl⟩) | (go_at_call 48; refine (qfine_any _ _ _ _ _).mono ?_; rintro e w' ⟨rfl, rfl⟩))
    all_goals first
      | (exfalso; have := HN.out; go_light; omega)
      | (go_ret2; exact ⟨ret_ii (gN_no HG.out).1.symm (gN_no HG.out).2.symm, rfl⟩)

set_option maxRecDepth 100000 in
set_option maxHeartbeats 1600000 in
theorem gqtile_any (w h tw th i : Int) (W : World) (hi : -9223372036854775808 ≤ i ∧ i ≤ 9223372036854775807) :
    Calls Try.prog 34 #[.int .i64 w, .int .i64 h, .int .i64 tw, .int .i64 th, .int .i64 i] W fun e w' => e = .returned (.tuple #[.agg #[.int .i64 (gT0 w h tw th i), .int .i64 (gT1 w h tw th i), .int .i64 (gT2 w h tw th i), .int .i64 (gT3 w h tw th i)], .bool (gTok w h tw th i)]) ∧ Below W.heap.size W w' := by
  obtain ⟨B, hB⟩ : ∃ B, W.heap.size = B := ⟨_, rfl⟩
  obtain ⟨i1, i2⟩ := hi
  cases ht : gTok w h tw th i with
  | true =>
    have HT := hid ht
    obtain ⟨t1, t2, t3, t4, t5, t6, t7, t8⟩ := tile_bd ht
    obtain ⟨hg, i0, im⟩ := gTok_iff.1 ht
    obtain ⟨n1, n2, n3, n4, _, _, _, _⟩ := gN_bd hg
    obtain ⟨g1, g2, g3, g4, g5, g6, g7, g8⟩ := gOk_iff.1 hg
    have p1 : gNx w h tw th * gNy w h tw th ≤ 128 * 128 := Int.mul_le_mul n2 n4 (by omega) (by omega)
    have HI := hid im
    have e0 : Hid (gT0 w h tw th i = i % gNx w h tw th * tw ∧ gT1 w h tw th i = i / gNx w h tw th * th ∧ gT2 w h tw th i = min (i % gNx w h tw th * tw + tw) w ∧ gT3 w h tw th i = min (i / gNx w h tw th * th + th) h) := by simp [gT0, gT1, gT2, gT3, ht, Hid]
    have emin : ∀ x y : Int, (if y < x then y else x) = min x y := fun x y => by omega
    clear hg ht
    go_enter Try.func34, Try.ntmps34
    go_wp2_with (first | (go_at_call 33; refine (qcount_any _ _ _ _ _).mono ?_; rintro e w' ⟨rfl, rfl⟩))
    go_quiet (fail)
    go_wp2
    obtain ⟨d0, d1, d2, d3⟩ := e0.out
    obtain ⟨q0, q1, q2, q3⟩ := set4_cells (x := .int .i64 (i % gNx w h tw th * tw)) (y := .int .i64 (i / gNx w h tw th * th)) (z := .int .i64 (min (i % gNx w h tw th * tw + tw) w)) (u := .int .i64 (min (i / gNx w h tw th * th + th) h)) (w := (W.alloc (.cells #[.int .i64 0, .int .i64 0, .int .i64 0, .int .i64 0] 24)).drewN nq) (alloc_at _ hB)
    refine bodyPost_ret (v := .tuple #[.agg #[.int .i64 (i % gNx w h tw th * tw), .int .i64 (i / gNx w h tw th * th), .int .i64 (min (i % gNx w h tw th * tw + tw) w), .int .i64 (min (i / gNx w h tw th * th + th) h)], .bool true]) ?_ rfl ⟨by rw [d0, d1, d2, d3], ?_⟩
    · unfold set4 at q0 q1 q2 q3
      simp [results, Try.results34, go_sem, q0, q1, q2, q3]
    · rw [hB]; first | exact (Since.set4 (b := B) ((Since.self hB).alloc _) (by omega)).below | exact (Since.set4 (b := B) (((Since.self hB).alloc _).drewN nq) (by omega)).below | exact (Since.set4 (b := B) ((Since.self hB).alloc _) (by omega)).all hB | exact (Since.set4 (b := B) (((Since.self hB).alloc _).drewN _) (by omega)).all hB
  | false =>
    have HN : Hid (gOk w h tw th = true → ¬ (0 ≤ i ∧ i < gNx w h tw th * gNy w h tw th)) := fun hg c => by rw [gTok_iff.2 ⟨hg, c⟩] at ht; simp at ht
    have e0 : Hid (gT0 w h tw th i = 0 ∧ gT1 w h tw th i = 0 ∧ gT2 w h tw th i = 0 ∧ gT3 w h tw th i = 0) := by simp [gT0, gT1, gT2, gT3, ht, Hid]
    clear ht
    cases hg : gOk w h tw th with
    | false =>
      obtain ⟨z1, z2⟩ := gN_no hg
      clear hg HN
      by_cases hi0 : i < 0
      all_goals
        go_enter Try.func34, Try.ntmps34
        go_wp2_with (first | (go_at_call 33; refine (qcount_any _ _ _ _ _).mono ?_; rintro e w' ⟨rfl, rfl⟩))
        obtain ⟨d0, d1, d2, d3⟩ := e0.out
        have Z := alloc_at (.cells #[.int .i64 0, .int .i64 0, .int .i64 0, .int .i64 0] 24) hB
        have q0 := cell_of (i := 0) Z rfl
        have q1 := cell_of (i := 1) Z rfl
        have q2 := cell_of (i := 2) Z rfl
        have q3 := cell_of (i := 3) Z rfl
        refine bodyPost_ret (v := .tuple #[.agg #[.int .i64 (0), .int .i64 (0), .int .i64 (0), .int .i64 (0)], .bool false]) ?_ rfl ⟨by rw [d0, d1, d2, d3], ?_⟩
        · simp [results, Try.results34, go_sem, q0, q1, q2, q3]
        · exact below_self _ _
    | true =>
      obtain ⟨n1, n2, n3, n4, _, _, _, _⟩ := gN_bd hg
      have p1 : gNx w h tw th * gNy w h tw th ≤ 128 * 128 := Int.mul_le_mul n2 n4 (by omega) (by omega)
      have p0 : 0 ≤ gNx w h tw th * gNy w h tw th := Int.mul_nonneg (by omega) (by omega)
      have hn := HN.out hg
      have hn' : i < 0 ∨ (0 ≤ i ∧ gNx w h tw th * gNy w h tw th ≤ i) := by omega
      clear hn hg HN
      rcases hn' with hn | ⟨hn, hn'⟩
      all_goals
        go_enter Try.func34, Try.ntmps34
        go_wp2_with (first | (go_at_call 33; refine (qcount_any _ _ _ _ _).mono ?_; rintro e w' ⟨rfl, rfl⟩))
        obtain ⟨d0, d1, d2, d3⟩ := e0.out
        have Z := alloc_at (.cells #[.int .i64 0, .int .i64 0, .int .i64 0, .int .i64 0] 24) hB
        have q0 := cell_of (i := 0) Z rfl
        have q1 := cell_of (i := 1) Z rfl
        have q2 := cell_of (i := 2) Z rfl
        have q3 := cell_of (i := 3) Z rfl
        refine bodyPost_ret (v := .tuple #[.agg #[.int .i64 (0), .int .i64 (0), .int .i64 (0), .int .i64 (0)], .bool false]) ?_ rfl ⟨by rw [d0, d1, d2, d3], ?_⟩
        · simp [results, Try.results34, go_sem, q0, q1, q2, q3]
        · exact below_self _ _
end Go.Proofs.Ytlidacfokgdlgaa
