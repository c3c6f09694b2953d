/-
  Contracts: products with a limit, for all integers.
-/
import Derived.Test.YtoojiabdgaflgaaPlanePlain
import Derived.Test.YtoojiabdgaflgaaHeap
import Derived.Test.YtoojiabdgaflgaaProg
namespace Go.Proofs.Ytoojiabdgaflgaa
open Go.RowKit
set_option linter.unusedVariables false
set_option linter.unusedSimpArgs false

theorem mulAny (a b l : Int) (w : World) (hl : l ≤ 9223372036854775807) :
    Calls Try.prog 92 #[.int .i64 a, .int .i64 b, .int .i64 l] w fun e w' => e = .returned (.tuple #[.int .i64 (mVal a b l), .bool (mOk a b l)]) ∧ w' = w := by
  by_cases h0 : 0 ≤ a ∧ 0 ≤ b ∧ 0 ≤ l
  · obtain ⟨a0, b0, l0⟩ := h0
    by_cases hb : b = 0
    · subst hb
      have hm : mOk a 0 l = true := mOk_iff.2 ⟨a0, b0, l0, by omega⟩
      have hv : mVal a 0 l = 0 := by simp [mVal]
      rw [hm, hv]
      clear hm hv
      go_enter Try.func92, Try.ntmps92
      go_wp2
      all_goals (go_ret2; exact ⟨rfl, rfl⟩)
    · have b1 : 0 < b := by omega
      have d0 : 0 ≤ l / b := Int.ediv_nonneg l0 (by omega)
      have d1 : l / b ≤ l := Int.ediv_le_self b l0
      have m2 : l.tdiv b = l / b := Int.tdiv_eq_ediv_of_nonneg l0
      have m4 : IntKind.i64.wrap (l / b) = l / b := IntWalk.i64_in _ (by omega)
      by_cases hc : l / b < a
      · have hm : mOk a b l = false := by rw [← Bool.not_eq_true, mOk_iff]; have := (mul_div b1).1 hc; omega
        have hv : mVal a b l = 0 := by simp [mVal, hm]
        rw [hm, hv]
        clear hm hv
        go_enter Try.func92, Try.ntmps92
        go_wp2
        all_goals (go_ret2; exact ⟨rfl, rfl⟩)
      · have hle : a * b ≤ l := by have := (not_congr (mul_div (a := a) (l := l) b1)).1 hc; omega
        have hm : mOk a b l = true := mOk_iff.2 ⟨a0, b0, l0, hle⟩
        have hv : mVal a b l = a * b := by simp [mVal, hm]
        have p0 : 0 ≤ a * b := Int.mul_nonneg a0 b0
        have m5 : IntKind.i64.wrap (a * b) = a * b := IntWalk.i64_in _ (by omega)
        rw [hm, hv]
        clear hm hv
        go_enter Try.func92, Try.ntmps92
        go_wp2
        all_goals (go_ret2; exact ⟨rfl, rfl⟩)
  · have hm : mOk a b l = false := by rw [← Bool.not_eq_true, mOk_iff]; omega
    have hv : mVal a b l = 0 := by simp [mVal, hm]
    rw [hm, hv]
    clear hm hv
    go_enter Try.func92, Try.ntmps92
    go_wp2
    all_goals (go_ret2; exact ⟨rfl, rfl⟩)
theorem qmulAny (a b l : Int) (w : World) (hl : l ≤ 9223372036854775807) :
    Calls Try.prog 93 #[.int .i64 a, .int .i64 b, .int .i64 l] w fun e w' => e = .returned (.tuple #[.int .i64 (mVal a b l), .bool (mOk a b l)]) ∧ w' = w := by
  by_cases h0 : 0 ≤ a ∧ 0 ≤ b ∧ 0 ≤ l
  · obtain ⟨a0, b0, l0⟩ := h0
    by_cases hb : b = 0
    · subst hb
      have hm : mOk a 0 l = true := mOk_iff.2 ⟨a0, b0, l0, by omega⟩
      have hv : mVal a 0 l = 0 := by simp [mVal]
      rw [hm, hv]
      clear hm hv
      go_enter Try.func93, Try.ntmps93
      go_wp2
      all_goals (go_ret2; exact ⟨rfl, rfl⟩)
    · have b1 : 0 < b := by omega
      have d0 : 0 ≤ l / b := Int.ediv_nonneg l0 (by omega)
      have d1 : l / b ≤ l := Int.ediv_le_self b l0
      have m2 : l.tdiv b = l / b := Int.tdiv_eq_ediv_of_nonneg l0
      have m4 : IntKind.i64.wrap (l / b) = l / b := IntWalk.i64_in _ (by omega)
      by_cases hc : l / b < a
      · have hm : mOk a b l = false := by rw [← Bool.not_eq_true, mOk_iff]; have := (mul_div b1).1 hc; omega
        have hv : mVal a b l = 0 := by simp [mVal, hm]
        rw [hm, hv]
        clear hm hv
        go_enter Try.func93, Try.ntmps93
        go_wp2
        all_goals (go_ret2; exact ⟨rfl, rfl⟩)
      · have hle : a * b ≤ l := by have := (not_congr (mul_div (a := a) (l := l) b1)).1 hc; omega
        have hm : mOk a b l = true := mOk_iff.2 ⟨a0, b0, l0, hle⟩
        have hv : mVal a b l = a * b := by simp [mVal, hm]
        have p0 : 0 ≤ a * b := Int.mul_nonneg a0 b0
        have m5 : IntKind.i64.wrap (a * b) = a * b := IntWalk.i64_in _ (by omega)
        rw [hm, hv]
        clear hm hv
        go_enter Try.func93, Try.ntmps93
        go_wp2
        all_goals (go_ret2; exact ⟨rfl, rfl⟩)
  · have hm : mOk a b l = false := by rw [← Bool.not_eq_true, mOk_iff]; omega
    have hv : mVal a b l = 0 := by simp [mVal, hm]
    rw [hm, hv]
    clear hm hv
    go_enter Try.func93, Try.ntmps93
    go_wp2
    all_goals (go_ret2; exact ⟨rfl, rfl⟩)

end Go.Proofs.Ytoojiabdgaflgaa
