/-
  The walk of BorderPeriod: coordinates within a plane are mapped to themselves, mirror and wrap repeat after two lengths, mirror is continuous.
-/
import Derived.Test.YtekpekhdkghnmaaBorder3
import Derived.Test.YtekpekhdkghnmaaFrame
import Derived.Deep.Light
namespace Go.Proofs.Ytekpekhdkghnmaa
open Go.RowKit
set_option linter.unusedVariables false

theorem mirror_succ {c m : Int} (h : 1 ≤ m) (h' : m ≤ 128) : bIdx (c + 1) m 1 - bIdx c m 1 ≤ 1 ∧ bIdx c m 1 - bIdx (c + 1) m 1 ≤ 1 := by
  have m1 := Int.emod_nonneg c (b := 2 * m) (by omega)
  have m2 := Int.emod_lt_of_pos c (b := 2 * m) (by omega)
  have e : (c + 1) % (2 * m) = if c % (2 * m) + 1 = 2 * m then 0 else c % (2 * m) + 1 := by
    rw [← Int.emod_add_emod]
    split
    · rename_i q; rw [q]; exact Int.emod_self
    · exact Int.emod_eq_of_lt (by omega) (by omega)
  rw [bIdx_mirror h h', bIdx_mirror h h', e]
  (repeat' split) <;> omega

theorem period_two {c m p : Int} (h : 1 ≤ m) (h' : m ≤ 128) (hp : p = 1 ∨ p = 2) : bIdx (c + 2 * m) m p = bIdx c m p :=
  bIdx_per h h' hp (by rw [Int.add_emod_right])

theorem idx_self {c m p : Int} (h : 1 ≤ m) (h' : m ≤ 128) (hp : 0 ≤ p) (hp' : p ≤ 3) (h0 : 0 ≤ c) (h1 : c < m) : bIdx c m p = c := by
  obtain rfl | rfl | rfl | rfl : p = 0 ∨ p = 1 ∨ p = 2 ∨ p = 3 := by omega
  · rw [bIdx_clamp h h']; omega
  · rw [bIdx_mirror h h', Int.emod_eq_of_lt (by omega) (by omega), if_neg (by omega)]
  · rw [bIdx_wrap h h', Int.emod_eq_of_lt (by omega) (by omega)]
  · rw [bIdx_const h h' h0 h1]

def Upto4 (j : Value) : Prop := ∃ p : Int, 0 ≤ p ∧ p ≤ 4 ∧ j = .int .i64 p

set_option maxRecDepth 100000 in
set_option maxHeartbeats 1600000 in
theorem walk_BorderPeriod (i n : Int) (W : World) (_ : I64 i) (_ : I64 n) :
    Calls Try.prog 6 #[.int .i64 i, .int .i64 n] W fun e w' => e = .returned (.bool true) ∧ Below W.heap.size W w' := by
  have b1 := Int.emod_nonneg n (b := 128) (by omega)
  have b2 := Int.emod_lt_of_pos n (b := 128) (by omega)
  have b3 := Int.emod_nonneg i (b := 4000) (by omega)
  have b4 := Int.emod_lt_of_pos i (b := 4000) (by omega)
  go_enter Try.func6, Try.ntmps6
  go_wp2_with (first
    | (go_at_call 12; refine (mod_any _ _ _ (by omega) (by omega)).mono ?_; rintro e w' ⟨rfl, rfl⟩))
  go_loop [7] (fun j => Upto4 j) (fun j => (4 - intOf j).toNat)
  case atStart => exact ⟨0, by omega, by omega, rfl⟩
  case round =>
    obtain ⟨p, hp0, hp4, rfl⟩ := hrel
    by_cases h4 : p = 4
    · subst h4
      go_wp2_with (first | (go_at_call 14; refine (sane3 _).mono ?_; rintro e w' ⟨rfl, hb⟩))
      go_ret
      exact ⟨rfl, hb⟩
    have hm : 1 ≤ 1 + n % 128 := by omega
    have hm' : 1 + n % 128 ≤ 128 := by omega
    have S : Hid (0 ≤ i % 4000 - 2000 → i % 4000 - 2000 < 1 + n % 128 → bIdx (i % 4000 - 2000) (1 + n % 128) p = i % 4000 - 2000) := fun a b => idx_self hm hm' hp0 (by omega) a b
    by_cases h3 : p = 3
    · subst h3
      by_cases hc : 0 ≤ i % 4000 - 2000 ∧ i % 4000 - 2000 < 1 + n % 128
      · obtain ⟨hc1, hc2⟩ := hc
        have o : bOk (i % 4000 - 2000) (1 + n % 128) 3 = true := by rw [bOk_const hm hm']; simp; omega
        have e := S.out hc1 hc2
        go_wp2_with (first | (go_at_call 13; refine (index_any _ _ _ _).mono ?_; rintro e w' ⟨rfl, rfl⟩))
        go_round
        case rel => exact ⟨4, by omega, by omega, rfl⟩
        case measure => simp [intOf]
      · have o : bOk (i % 4000 - 2000) (1 + n % 128) 3 = false := by rw [bOk_const hm hm']; simp; omega
        by_cases hc1 : 0 ≤ i % 4000 - 2000
        all_goals
          go_wp2_with (first | (go_at_call 13; refine (index_any _ _ _ _).mono ?_; rintro e w' ⟨rfl, rfl⟩))
          go_round
          case rel => exact ⟨4, by omega, by omega, rfl⟩
          case measure => simp [intOf]
    · have o : ∀ c, bOk c (1 + n % 128) p = true := fun c => bOk_yes hm hm' (by omega)
      obtain ⟨g1, g2⟩ := bIdx_bd (i % 4000 - 2000) (1 + n % 128) p (o _)
      obtain ⟨g3, g4⟩ := bIdx_bd (i % 4000 - 2000 + 1) (1 + n % 128) p (o _)
      have P : Hid (p = 1 ∨ p = 2 → bIdx (i % 4000 - 2000 + 2 * (1 + n % 128)) (1 + n % 128) p = bIdx (i % 4000 - 2000) (1 + n % 128) p) := fun h => period_two hm hm' h
      have M := mirror_succ (c := i % 4000 - 2000) hm hm'
      have M' : Hid (bIdx (i % 4000 - 2000 + 1) (1 + n % 128) 1 - bIdx (i % 4000 - 2000) (1 + n % 128) 1 ≤ 1 ∧ bIdx (i % 4000 - 2000) (1 + n % 128) 1 - bIdx (i % 4000 - 2000 + 1) (1 + n % 128) 1 ≤ 1) := M
      clear M
      obtain rfl | rfl | rfl : p = 0 ∨ p = 1 ∨ p = 2 := by omega
      · by_cases hc : 0 ≤ i % 4000 - 2000 ∧ i % 4000 - 2000 < 1 + n % 128
        · obtain ⟨hc1, hc2⟩ := hc
          have e := S.out hc1 hc2
          go_wp2_with (first | (go_at_call 13; refine (index_any _ _ _ _).mono ?_; rintro e w' ⟨rfl, rfl⟩))
          go_round
          case rel => exact ⟨1, by omega, by omega, rfl⟩
          case measure => simp [intOf]
        · by_cases hc1 : 0 ≤ i % 4000 - 2000
          all_goals
            go_wp2_with (first | (go_at_call 13; refine (index_any _ _ _ _).mono ?_; rintro e w' ⟨rfl, rfl⟩))
            go_round
            case rel => exact ⟨1, by omega, by omega, rfl⟩
            case measure => simp [intOf]
      · have P' := P.out (.inl rfl)
        obtain ⟨M1, M2⟩ := M'.out
        by_cases hc : 0 ≤ i % 4000 - 2000 ∧ i % 4000 - 2000 < 1 + n % 128
        · obtain ⟨hc1, hc2⟩ := hc
          have e := S.out hc1 hc2
          go_wp2_with (first | (go_at_call 13; refine (index_any _ _ _ _).mono ?_; rintro e w' ⟨rfl, rfl⟩))
          go_round
          case rel => exact ⟨2, by omega, by omega, rfl⟩
          case measure => simp [intOf]
        · by_cases hc1 : 0 ≤ i % 4000 - 2000
          all_goals
            go_wp2_with (first | (go_at_call 13; refine (index_any _ _ _ _).mono ?_; rintro e w' ⟨rfl, rfl⟩))
            go_round
            case rel => exact ⟨2, by omega, by omega, rfl⟩
            case measure => simp [intOf]
      · have P' := P.out (.inr rfl)
        by_cases hc : 0 ≤ i % 4000 - 2000 ∧ i % 4000 - 2000 < 1 + n % 128
        · obtain ⟨hc1, hc2⟩ := hc
          have e := S.out hc1 hc2
          go_wp2_with (first | (go_at_call 13; refine (index_any _ _ _ _).mono ?_; rintro e w' ⟨rfl, rfl⟩))
          go_round
          case rel => exact ⟨3, by omega, by omega, rfl⟩
          case measure => simp [intOf]
        · by_cases hc1 : 0 ≤ i % 4000 - 2000
          all_goals
            go_wp2_with (first | (go_at_call 13; refine (index_any _ _ _ _).mono ?_; rintro e w' ⟨rfl, rfl⟩))
            go_round
            case rel => exact ⟨3, by omega, by omega, rfl⟩
            case measure => simp [intOf]
end Go.Proofs.Ytekpekhdkghnmaa
