/-
  Contracts of package border and of its reference: the integers that they return, for all integers.
-/
import Derived.Test.YtoojiabdgaflgaaProg
import Derived.Test.YtoojiabdgaflgaaPlain
import Derived.WalkKit
import Derived.WalkLawsBesides
import Derived.WalkSpells
import Derived.Deep.Light
namespace Go.Proofs.Ytoojiabdgaflgaa
open Go.RowKit

theorem mod_any (v n : Int) (w : World) (hn : 1 ≤ n) (hn2 : n ≤ 9223372036854775807) :
    Calls Try.prog 23 #[.int .i64 v, .int .i64 n] w fun e w' => e = .returned (.int .i64 (v % n)) ∧ w = w' := by
  by_cases h0 : 0 ≤ v
  · have h1 : 0 ≤ v % n := Int.emod_nonneg _ (by omega)
    go_enter Try.func23, Try.ntmps23
    go_wp2
    go_ret
    exact ⟨rfl, rfl⟩
  · obtain ⟨h1, h2, h3⟩ := tmod_neg v n hn (by omega)
    by_cases h4 : v.tmod n < 0
    · rw [if_pos h4] at h3
      have h5 : v.tmod n + n ≤ 9223372036854775807 := by omega
      have HH : Hid (v % n = v.tmod n + n) := h3
      clear h3
      go_enter Try.func23, Try.ntmps23
      go_wp2
      go_ret
      exact ⟨ret_i HH.out.symm, rfl⟩
    · rw [if_neg h4] at h3
      have HH : Hid (v % n = v.tmod n) := h3
      clear h3
      go_enter Try.func23, Try.ntmps23
      go_wp2
      go_ret
      exact ⟨ret_i HH.out.symm, rfl⟩

theorem modulo_any (v n : Int) (w : World) (hn : 1 ≤ n) (hn2 : n ≤ 9223372036854775807) :
    Calls Try.prog 94 #[.int .i64 v, .int .i64 n] w fun e w' => e = .returned (.int .i64 (v % n)) ∧ w = w' := by
  by_cases h0 : 0 ≤ v
  · have h1 : 0 ≤ v % n := Int.emod_nonneg _ (by omega)
    go_enter Try.func94, Try.ntmps94
    go_wp2
    go_ret
    exact ⟨rfl, rfl⟩
  · obtain ⟨h1, h2, h3⟩ := tmod_neg v n hn (by omega)
    by_cases h4 : v.tmod n < 0
    · rw [if_pos h4] at h3
      have h5 : v.tmod n + n ≤ 9223372036854775807 := by omega
      have HH : Hid (v % n = v.tmod n + n) := h3
      clear h3
      go_enter Try.func94, Try.ntmps94
      go_wp2
      go_ret
      exact ⟨ret_i HH.out.symm, rfl⟩
    · rw [if_neg h4] at h3
      have HH : Hid (v % n = v.tmod n) := h3
      clear h3
      go_enter Try.func94, Try.ntmps94
      go_wp2
      go_ret
      exact ⟨ret_i HH.out.symm, rfl⟩

theorem rmod_any (v n : Int) (w : World) (hn : 1 ≤ n) (hn2 : n ≤ 9223372036854775807) :
    Calls Try.prog 98 #[.int .i64 v, .int .i64 n] w fun e w' => e = .returned (.int .i64 (v % n)) ∧ w = w' := by
  by_cases h0 : 0 ≤ v
  · have h1 : 0 ≤ v % n := Int.emod_nonneg _ (by omega)
    go_enter Try.func98, Try.ntmps98
    go_wp2
    go_ret
    exact ⟨rfl, rfl⟩
  · obtain ⟨h1, h2, h3⟩ := tmod_neg v n hn (by omega)
    by_cases h4 : v.tmod n < 0
    · rw [if_pos h4] at h3
      have h5 : v.tmod n + n ≤ 9223372036854775807 := by omega
      have HH : Hid (v % n = v.tmod n + n) := h3
      clear h3
      go_enter Try.func98, Try.ntmps98
      go_wp2
      go_ret
      exact ⟨ret_i HH.out.symm, rfl⟩
    · rw [if_neg h4] at h3
      have HH : Hid (v % n = v.tmod n) := h3
      clear h3
      go_enter Try.func98, Try.ntmps98
      go_wp2
      go_ret
      exact ⟨ret_i HH.out.symm, rfl⟩

set_option maxHeartbeats 400000 in
theorem index_any (i n p : Int) (w : World) :
    Calls Try.prog 86 #[.int .i64 i, .int .i64 n, .int .i64 p] w fun e w' => e = .returned (.tuple #[.int .i64 (bIdx i n p), .bool (bOk i n p)]) ∧ w = w' := by
  by_cases h0 : n < 1
  · go_enter Try.func86, Try.ntmps86
    go_wp2
    go_ret2
    exact ⟨ret_ib (by simp [bIdx, h0]) (by simp [bOk, h0]), rfl⟩
  by_cases h1 : 128 < n
  · go_enter Try.func86, Try.ntmps86
    go_wp2
    go_ret2
    exact ⟨ret_ib (by simp [bIdx, h1]) (by simp [bOk, h1]), rfl⟩
  obtain ⟨m3, m4⟩ : 0 ≤ i % (2 * n) ∧ i % (2 * n) < 2 * n := ⟨Int.emod_nonneg _ (by omega), Int.emod_lt_of_pos _ (by omega)⟩
  go_enter Try.func86, Try.ntmps86
  go_wp2_with (first | (go_at_call 94; refine (modulo_any _ _ _ (by omega) (by omega)).mono ?_; rintro e w' ⟨rfl, rfl⟩))
  all_goals go_ret2
  all_goals refine ⟨ret_ib ?_ ?_, rfl⟩
  all_goals simp only [beq_iff_eq, beq_eq_false_iff_ne, ne_eq] at *
  all_goals (first | unfold bIdx | unfold bOk)
  all_goals go_light
  all_goals (repeat' split)
  all_goals (first | rfl | omega)

set_option maxHeartbeats 400000 in
theorem rindex_any (i n p : Int) (w : World) :
    Calls Try.prog 95 #[.int .i64 i, .int .i64 n, .int .i64 p] w fun e w' => e = .returned (.tuple #[.int .i64 (bIdx i n p), .bool (bOk i n p)]) ∧ w = w' := by
  by_cases h0 : n < 1
  · go_enter Try.func95, Try.ntmps95
    go_wp2
    go_ret2
    exact ⟨ret_ib (by simp [bIdx, h0]) (by simp [bOk, h0]), rfl⟩
  by_cases h1 : 128 < n
  · go_enter Try.func95, Try.ntmps95
    go_wp2
    go_ret2
    exact ⟨ret_ib (by simp [bIdx, h1]) (by simp [bOk, h1]), rfl⟩
  obtain ⟨m3, m4⟩ : 0 ≤ i % (2 * n) ∧ i % (2 * n) < 2 * n := ⟨Int.emod_nonneg _ (by omega), Int.emod_lt_of_pos _ (by omega)⟩
  go_enter Try.func95, Try.ntmps95
  go_wp2_with (first | (go_at_call 98; refine (rmod_any _ _ _ (by omega) (by omega)).mono ?_; rintro e w' ⟨rfl, rfl⟩))
  all_goals go_ret2
  all_goals refine ⟨ret_ib ?_ ?_, rfl⟩
  all_goals simp only [beq_iff_eq, beq_eq_false_iff_ne, ne_eq] at *
  all_goals (first | unfold bIdx | unfold bOk)
  all_goals go_light
  all_goals (repeat' split)
  all_goals (first | rfl | omega)
end Go.Proofs.Ytoojiabdgaflgaa
