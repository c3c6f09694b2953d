/-
  Contracts: products with a limit, and the areas of planes.
-/
import Derived.Test.YtoojiabdgaflgaaPlanePlain
import Derived.Test.YtoojiabdgaflgaaHeap
import Derived.Test.YtoojiabdgaflgaaProg
namespace Go.Proofs.Ytoojiabdgaflgaa
open Go.RowKit
set_option linter.unusedVariables false
set_option linter.unusedSimpArgs false

theorem mul_any (a b l : Int) (w : World) (ha : a ≤ 9223372036854775807) (hl : l ≤ 9223372036854775807) :
    Calls Try.prog 92 #[.int .i64 a, .int .i64 b, .int .i64 l] w fun e w' => e = .returned (.tuple #[.int .i64 (mVal a b l), .bool (mOk a b l)]) ∧ w' = w := by
  by_cases h0 : 0 ≤ a ∧ 0 ≤ b ∧ 0 ≤ l
  · obtain ⟨a0, b0, l0⟩ := h0
    by_cases hb : b = 0
    · subst hb
      have hm : mOk a 0 l = true := mOk_iff.2 ⟨a0, b0, l0, by omega⟩
      have hv : mVal a 0 l = 0 := by simp [mVal]
      rw [hm, hv]
      clear hm hv
      go_enter Try.func92, Try.ntmps92
      go_wp2
      all_goals (go_ret2; exact ⟨rfl, rfl⟩)
    · have b1 : 0 < b := by omega
      have d0 : 0 ≤ l / b := Int.ediv_nonneg l0 (by omega)
      have d1 : l / b ≤ l := Int.ediv_le_self b l0
      have m2 : l.tdiv b = l / b := Int.tdiv_eq_ediv_of_nonneg l0
      have m4 : IntKind.i64.wrap (l / b) = l / b := IntWalk.i64_in _ (by omega)
      by_cases hc : l / b < a
      · have hm : mOk a b l = false := by rw [← Bool.not_eq_true, mOk_iff]; have := (mul_div b1).1 hc; omega
        have hv : mVal a b l = 0 := by simp [mVal, hm]
        rw [hm, hv]
        clear hm hv
        go_enter Try.func92, Try.ntmps92
        go_wp2
        all_goals (go_ret2; exact ⟨rfl, rfl⟩)
      · have hle : a * b ≤ l := by have := (not_congr (mul_div (a := a) (l := l) b1)).1 hc; omega
        have hm : mOk a b l = true := mOk_iff.2 ⟨a0, b0, l0, hle⟩
        have hv : mVal a b l = a * b := by simp [mVal, hm]
        have p0 : 0 ≤ a * b := Int.mul_nonneg a0 b0
        have m5 : IntKind.i64.wrap (a * b) = a * b := IntWalk.i64_in _ (by omega)
        rw [hm, hv]
        clear hm hv
        go_enter Try.func92, Try.ntmps92
        go_wp2
        all_goals (go_ret2; exact ⟨rfl, rfl⟩)
  · have hm : mOk a b l = false := by rw [← Bool.not_eq_true, mOk_iff]; omega
    have hv : mVal a b l = 0 := by simp [mVal, hm]
    rw [hm, hv]
    clear hm hv
    go_enter Try.func92, Try.ntmps92
    go_wp2
    all_goals (go_ret2; exact ⟨rfl, rfl⟩)
theorem qmul_any (a b l : Int) (w : World) (ha : a ≤ 9223372036854775807) (hl : l ≤ 9223372036854775807) :
    Calls Try.prog 93 #[.int .i64 a, .int .i64 b, .int .i64 l] w fun e w' => e = .returned (.tuple #[.int .i64 (mVal a b l), .bool (mOk a b l)]) ∧ w' = w := by
  by_cases h0 : 0 ≤ a ∧ 0 ≤ b ∧ 0 ≤ l
  · obtain ⟨a0, b0, l0⟩ := h0
    by_cases hb : b = 0
    · subst hb
      have hm : mOk a 0 l = true := mOk_iff.2 ⟨a0, b0, l0, by omega⟩
      have hv : mVal a 0 l = 0 := by simp [mVal]
      rw [hm, hv]
      clear hm hv
      go_enter Try.func93, Try.ntmps93
      go_wp2
      all_goals (go_ret2; exact ⟨rfl, rfl⟩)
    · have b1 : 0 < b := by omega
      have d0 : 0 ≤ l / b := Int.ediv_nonneg l0 (by omega)
      have d1 : l / b ≤ l := Int.ediv_le_self b l0
      have m2 : l.tdiv b = l / b := Int.tdiv_eq_ediv_of_nonneg l0
      have m4 : IntKind.i64.wrap (l / b) = l / b := IntWalk.i64_in _ (by omega)
      by_cases hc : l / b < a
      · have hm : mOk a b l = false := by rw [← Bool.not_eq_true, mOk_iff]; have := (mul_div b1).1 hc; omega
        have hv : mVal a b l = 0 := by simp [mVal, hm]
        rw [hm, hv]
        clear hm hv
        go_enter Try.func93, Try.ntmps93
        go_wp2
        all_goals (go_ret2; exact ⟨rfl, rfl⟩)
      · have hle : a * b ≤ l := by have := (not_congr (mul_div (a := a) (l := l) b1)).1 hc; omega
        have hm : mOk a b l = true := mOk_iff.2 ⟨a0, b0, l0, hle⟩
        have hv : mVal a b l = a * b := by simp [mVal, hm]
        have p0 : 0 ≤ a * b := Int.mul_nonneg a0 b0
        have m5 : IntKind.i64.wrap (a * b) = a * b := IntWalk.i64_in _ (by omega)
        rw [hm, hv]
        clear hm hv
        go_enter Try.func93, Try.ntmps93
        go_wp2
        all_goals (go_ret2; exact ⟨rfl, rfl⟩)
  · have hm : mOk a b l = false := by rw [← Bool.not_eq_true, mOk_iff]; omega
    have hv : mVal a b l = 0 := by simp [mVal, hm]
    rw [hm, hv]
    clear hm hv
    go_enter Try.func93, Try.ntmps93
    go_wp2
    all_goals (go_ret2; exact ⟨rfl, rfl⟩)

theorem area_any (a b mx : Int) (w : World) :
    Calls Try.prog 83 #[.int .i64 a, .int .i64 b, .int .i64 mx] w fun e w' => e = .returned (.tuple #[.int .i64 (pArea1 a b mx), .bool (pOk a b mx)]) ∧ w' = w := by
  by_cases h : 1 ≤ a ∧ a ≤ 128 ∧ 1 ≤ b ∧ b ≤ 128 ∧ 1 ≤ mx ∧ mx ≤ 4294967296
  · have e1 : pOk a b mx = mOk a b 4096 := by
      have : pOk a b mx = true ↔ mOk a b 4096 = true := by rw [pOk_iff, mOk_iff]; omega
      exact bool_of_iff this
    have e2 : pArea1 a b mx = mVal a b 4096 := by simp [pArea1, mVal, e1]
    have E := hid e1
    have E' := hid e2
    clear e1 e2
    obtain ⟨a1, a2, b1, b2, m1, m2⟩ := h
    go_enter Try.func83, Try.ntmps83
    go_wp2_with (first | (go_at_call 92; refine (mul_any _ _ _ _ (by omega) (by omega)).mono ?_; rintro e w' ⟨rfl, rfl⟩))
    all_goals (go_ret2; exact ⟨by rw [E.out, E'.out]; rfl, rfl⟩)
  · have e1 : pOk a b mx = false := by rw [← Bool.not_eq_true, pOk_iff]; omega
    have e2 : pArea1 a b mx = 0 := by simp [pArea1, e1]
    rw [e1, e2]
    clear e1 e2
    go_enter Try.func83, Try.ntmps83
    go_wp2_with fail
    all_goals first
      | (go_ret2; exact ⟨rfl, rfl⟩)
      | (exfalso; omega)

theorem qsize_any (a b mx : Int) (w : World) :
    Calls Try.prog 82 #[.int .i64 a, .int .i64 b, .int .i64 mx] w fun e w' => e = .returned (.bool (pOk a b mx)) ∧ w' = w := by
  by_cases h : 1 ≤ a ∧ a ≤ 128 ∧ 1 ≤ b ∧ b ≤ 128
  · obtain ⟨a1, a2, b1, b2⟩ := h
    have p1 : a * b ≤ 128 * 128 := Int.mul_le_mul a2 b2 (by omega) (by omega)
    have p2 : 0 ≤ a * b := Int.mul_nonneg (by omega) (by omega)
    have e : pOk a b mx = decide (a * b ≤ 4096 ∧ 1 ≤ mx ∧ mx ≤ 4294967296) := bool_of_iff (by rw [pOk_iff, decide_eq_true_eq]; omega)
    rw [e]
    clear e
    go_enter Try.func82, Try.ntmps82
    go_wp2
    all_goals (go_ret; refine ⟨ret_b (bool_of_iff ?_), rfl⟩; simp only [decide_eq_true_eq, Bool.false_eq_true, false_iff, true_iff, Bool.and_eq_true, iff_false, iff_true] <;> omega)
  · have e1 : pOk a b mx = false := by rw [← Bool.not_eq_true, pOk_iff]; omega
    rw [e1]
    clear e1
    go_enter Try.func82, Try.ntmps82
    go_wp2
    all_goals first
      | (go_ret; exact ⟨rfl, rfl⟩)
      | (exfalso; omega)
end Go.Proofs.Ytoojiabdgaflgaa
