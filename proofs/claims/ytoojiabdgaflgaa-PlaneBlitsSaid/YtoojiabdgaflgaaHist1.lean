/-
  Contracts: the bin of a pixel.
-/
import Derived.Test.YtoojiabdgaflgaaHistPlain
import Derived.Test.YtoojiabdgaflgaaPlane2
import Derived.Test.YtoojiabdgaflgaaRectIn
import Derived.Test.YtoojiabdgaflgaaMake
namespace Go.Proofs.Ytoojiabdgaflgaa
open Go.RowKit
set_option linter.unusedVariables false

set_option maxRecDepth 100000 in
theorem bin_any (v mx n : Int) (w : World) :
    Calls Try.prog 25 #[.int .i64 v, .int .i64 mx, .int .i64 n] w fun e w' => e = .returned (.int .i64 (hBin v mx n)) ∧ w' = w := by
  by_cases h : 1 ≤ mx ∧ mx ≤ 4294967296 ∧ 0 ≤ v ∧ v ≤ mx ∧ 1 ≤ n ∧ n ≤ 128
  · have e : hBin v mx n = v * n / (mx + 1) := by simp only [hBin, h]; simp
    rw [e]
    clear e
    obtain ⟨h1, h2, h3, h4, h5, h6⟩ := h
    have p0 : 0 ≤ v * n := Int.mul_nonneg h3 (by omega)
    have p1 : v * n ≤ 4294967296 * 128 := Int.mul_le_mul (by omega) h6 (by omega) (by omega)
    have d0 : 0 ≤ v * n / (mx + 1) := Int.ediv_nonneg p0 (by omega)
    have d1 : v * n / (mx + 1) ≤ v * n := Int.ediv_le_self _ p0
    have m0 : IntKind.i64.wrap (v * n) = v * n := IntWalk.i64_in _ (by omega)
    have m1 : IntKind.i64.wrap (mx + 1) = mx + 1 := IntWalk.i64_in _ (by omega)
    have m2 : (v * n).tdiv (mx + 1) = v * n / (mx + 1) := Int.tdiv_eq_ediv_of_nonneg p0
    have m3 : IntKind.i64.wrap (v * n / (mx + 1)) = v * n / (mx + 1) := IntWalk.i64_in _ (by omega)
    have m4 : mx + 1 ≠ 0 := by omega
    go_enter Try.func25, Try.ntmps25
    go_wp2
    all_goals (go_ret; exact ⟨rfl, rfl⟩)
  · have e : hBin v mx n = 0 := by unfold hBin; rw [if_neg h]
    rw [e]
    clear e
    go_enter Try.func25, Try.ntmps25
    go_wp2
    all_goals first
      | (go_ret; exact ⟨rfl, rfl⟩)
      | (exfalso; omega)

theorem qbins_any (n : Int) (w : World) :
    Calls Try.prog 65 #[.int .i64 n] w fun e w' => e = .returned (.bool (decide (1 ≤ n ∧ n ≤ 128))) ∧ w' = w := by
  go_enter Try.func65, Try.ntmps65
  go_wp2
  all_goals go_ret
  all_goals refine ⟨ret_b ?_, rfl⟩
  all_goals (refine bool_of_iff ?_; simp; try omega)

set_option maxRecDepth 100000 in
theorem qbin_any (v mx n : Int) (w : World) :
    Calls Try.prog 27 #[.int .i64 v, .int .i64 mx, .int .i64 n] w fun e w' => e = .returned (.int .i64 (hBin v mx n)) ∧ w' = w := by
  by_cases h : 1 ≤ mx ∧ mx ≤ 4294967296 ∧ 0 ≤ v ∧ v ≤ mx ∧ 1 ≤ n ∧ n ≤ 128
  · have e : hBin v mx n = v * n / (mx + 1) := by simp only [hBin, h]; simp
    rw [e]
    clear e
    obtain ⟨h1, h2, h3, h4, h5, h6⟩ := h
    have p0 : 0 ≤ v * n := Int.mul_nonneg h3 (by omega)
    have p1 : v * n ≤ 4294967296 * 128 := Int.mul_le_mul (by omega) h6 (by omega) (by omega)
    have d0 : 0 ≤ v * n / (mx + 1) := Int.ediv_nonneg p0 (by omega)
    have d1 : v * n / (mx + 1) ≤ v * n := Int.ediv_le_self _ p0
    have m0 : IntKind.i64.wrap (v * n) = v * n := IntWalk.i64_in _ (by omega)
    have m1 : IntKind.i64.wrap (mx + 1) = mx + 1 := IntWalk.i64_in _ (by omega)
    have m2 : (v * n).tdiv (mx + 1) = v * n / (mx + 1) := Int.tdiv_eq_ediv_of_nonneg p0
    have m3 : IntKind.i64.wrap (v * n / (mx + 1)) = v * n / (mx + 1) := IntWalk.i64_in _ (by omega)
    have m4 : mx + 1 ≠ 0 := by omega
    have m5 : decide (1 ≤ n ∧ n ≤ 128) = true := by simp; omega
    go_enter Try.func27, Try.ntmps27
    go_wp2_with (first | (go_at_call 65; refine (qbins_any _ _).mono ?_; rintro e w' ⟨rfl, rfl⟩))
    all_goals (go_ret; exact ⟨rfl, rfl⟩)
  · have e : hBin v mx n = 0 := by unfold hBin; rw [if_neg h]
    rw [e]
    clear e
    by_cases hn : 1 ≤ n ∧ n ≤ 128
    · have m5 : decide (1 ≤ n ∧ n ≤ 128) = true := by simp; omega
      go_enter Try.func27, Try.ntmps27
      go_wp2_with (first | (go_at_call 65; refine (qbins_any _ _).mono ?_; rintro e w' ⟨rfl, rfl⟩))
      all_goals first
        | (go_ret; exact ⟨rfl, rfl⟩)
        | (exfalso; omega)
    · have m5 : decide (1 ≤ n ∧ n ≤ 128) = false := by rw [decide_eq_false_iff_not]; exact hn
      go_enter Try.func27, Try.ntmps27
      go_wp2_with (first | (go_at_call 65; refine (qbins_any _ _).mono ?_; rintro e w' ⟨rfl, rfl⟩))
      all_goals first
        | (go_ret; exact ⟨rfl, rfl⟩)
        | (exfalso; omega)
end Go.Proofs.Ytoojiabdgaflgaa
