/-
  The walks of the laws on borders.
-/
import Derived.Test.YtekpekhdkghnmaaBorder3
import Derived.Test.YtekpekhdkghnmaaTape
import Derived.Test.YtekpekhdkghnmaaFrame
namespace Go.Proofs.Ytekpekhdkghnmaa
open Go.RowKit
set_option linter.unusedVariables false

theorem mirror_neg {c m : Int} (h : 1 ≤ m) (h' : m ≤ 128) : (-1 - c) % (2 * m) = 2 * m - 1 - c % (2 * m) := by
  have m1 := Int.emod_nonneg c (b := 2 * m) (by omega)
  have m2 := Int.emod_lt_of_pos c (b := 2 * m) (by omega)
  have e := Int.mul_ediv_add_emod c (2 * m)
  have e2 : -1 - c = (2 * m - 1 - c % (2 * m)) + 2 * m * (-1 - c / (2 * m)) := by rw [Int.mul_sub]; omega
  rw [e2, Int.add_mul_emod_self_left, Int.emod_eq_of_lt (by omega) (by omega)]

theorem mirror_two {c m : Int} (h : 1 ≤ m) (h' : m ≤ 128) : (2 * m - 1 - c) % (2 * m) = 2 * m - 1 - c % (2 * m) := by
  rw [← mirror_neg h h', show 2 * m - 1 - c = (-1 - c) + 2 * m from by omega, Int.add_emod_right]

set_option maxRecDepth 100000 in
set_option maxHeartbeats 1600000 in
theorem walk_BorderMirrors (i n : Int) (W : World) (wi : I64 i) (wn : I64 n) :
    Calls Try.prog 3 #[.int .i64 i, .int .i64 n] W fun e w' => e = .returned (.bool true) ∧ Below W.heap.size W w' := by
  have b1 := Int.emod_nonneg n (b := 128) (by omega)
  have b2 := Int.emod_lt_of_pos n (b := 128) (by omega)
  have b3 := Int.emod_nonneg i (b := 5000) (by omega)
  have b4 := Int.emod_lt_of_pos i (b := 5000) (by omega)
  have o1 : ∀ c, bOk c (1 + n % 128) 0 = true := fun c => bOk_yes (by omega) (by omega) (by omega)
  have o2 : ∀ c, bOk c (1 + n % 128) 1 = true := fun c => bOk_yes (by omega) (by omega) (by omega)
  have o3 : ∀ c, bOk c (1 + n % 128) 2 = true := fun c => bOk_yes (by omega) (by omega) (by omega)
  obtain ⟨g1, g2⟩ := bIdx_bd (i % 5000 - 2500) (1 + n % 128) 0 (o1 _)
  have E : Hid (bIdx (i % 5000 - 2500) (1 + n % 128) 1 = bIdx (-1 - (i % 5000 - 2500)) (1 + n % 128) 1 ∧ bIdx (-1 - (i % 5000 - 2500)) (1 + n % 128) 1 = bIdx (2 * (1 + n % 128) - 1 - (i % 5000 - 2500)) (1 + n % 128) 1 ∧
      bIdx (i % 5000 - 2500) (1 + n % 128) 2 = bIdx (i % 5000 - 2500 - (1 + n % 128)) (1 + n % 128) 2 ∧
      (bIdx (i % 5000 - 2500 + 1) (1 + n % 128) 0 = bIdx (i % 5000 - 2500) (1 + n % 128) 0 ∨ bIdx (i % 5000 - 2500 + 1) (1 + n % 128) 0 = bIdx (i % 5000 - 2500) (1 + n % 128) 0 + 1)) := by
    generalize i % 5000 - 2500 = c
    have hm : 1 ≤ 1 + n % 128 := by omega
    have hm' : 1 + n % 128 ≤ 128 := by omega
    generalize 1 + n % 128 = m at hm hm'
    have m1 := Int.emod_nonneg c (b := 2 * m) (by omega)
    have m2 := Int.emod_lt_of_pos c (b := 2 * m) (by omega)
    refine ⟨?_, ?_, ?_, ?_⟩
    · rw [bIdx_mirror hm hm', bIdx_mirror hm hm', mirror_neg hm hm']; (repeat' split) <;> omega
    · rw [bIdx_mirror hm hm', bIdx_mirror hm hm', mirror_neg hm hm', mirror_two hm hm']
    · rw [bIdx_wrap hm hm', bIdx_wrap hm hm', Int.sub_emod_right]
    · rw [bIdx_clamp hm hm', bIdx_clamp hm hm']; omega
  go_enter Try.func3, Try.ntmps3
  go_wp2_with (first
    | (go_at_call 12; refine (mod_any _ _ _ (by omega) (by omega)).mono ?_; rintro e w' ⟨rfl, rfl⟩)
    | (go_at_call 13; refine (index_any _ _ _ _).mono ?_; rintro e w' ⟨rfl, rfl⟩)
    | (go_at_call 14; refine (sane3 _).mono ?_; rintro e w' ⟨rfl, hb⟩))
  all_goals first
    | (exfalso; have E' := E.out; omega)
    | (go_ret; exact ⟨rfl, hb⟩)
end Go.Proofs.Ytekpekhdkghnmaa
