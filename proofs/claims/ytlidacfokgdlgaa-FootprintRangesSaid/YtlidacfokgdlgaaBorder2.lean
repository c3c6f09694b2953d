/-
  Contracts of border.Range and of its reference: both answer the least and the greatest mapped coordinate; and of border.Valid and its reference.
-/
import Derived.Test.YtlidacfokgdlgaaKA
import Derived.Test.YtlidacfokgdlgaaRange
import Derived.Deep.DeepCutAuto
namespace Go.Proofs.Ytlidacfokgdlgaa
open Go.RowKit

def RangePost (a b n p : Int) (w : World) (e : Ending) (w' : World) : Prop :=
  ∃ lo hi : Int, ∃ ok : Bool, e = .returned (.tuple #[.int .i64 lo, .int .i64 hi, .bool ok]) ∧ RangeSpec a b n p lo hi ok ∧ w = w'

theorem rangePost {a b n p lo hi lo' hi' : Int} {ok ok' : Bool} {w : World} (h : RangeSpec a b n p lo hi ok) (h1 : lo' = lo) (h2 : hi' = hi) (h3 : ok' = ok) :
    RangePost a b n p w (.returned (.tuple #[.int .i64 lo', .int .i64 hi', .bool ok'])) w := ⟨lo, hi, ok, by rw [h1, h2, h3], h, rfl⟩

set_option maxHeartbeats 800000 in
theorem range_any (a b n p : Int) (w : World) :
    Calls Try.prog 25 #[.int .i64 a, .int .i64 b, .int .i64 n, .int .i64 p] w (RangePost a b n p w) := by
  by_cases a1 : a < -1048576
  · go_enter Try.func25, Try.ntmps25
    go_wp2
    go_ret3
    exact rangePost (spec_out (by unfold inC; omega)) rfl rfl rfl
  by_cases a2 : 1048576 < a
  · go_enter Try.func25, Try.ntmps25
    go_wp2
    go_ret3
    exact rangePost (spec_out (by unfold inC; omega)) rfl rfl rfl
  by_cases a3 : b < -1048576
  · go_enter Try.func25, Try.ntmps25
    go_wp2
    go_ret3
    exact rangePost (spec_out (by unfold inC; omega)) rfl rfl rfl
  by_cases a4 : 1048576 < b
  · go_enter Try.func25, Try.ntmps25
    go_wp2
    go_ret3
    exact rangePost (spec_out (by unfold inC; omega)) rfl rfl rfl
  have c : Hid (inC a b) := ⟨by omega, by omega, by omega, by omega⟩
  by_cases b1 : n < 1
  · go_enter Try.func25, Try.ntmps25
    go_wp2
    go_ret3
    exact rangePost (spec_none fun i _ _ => bOk_bad (.inl b1)) rfl rfl rfl
  by_cases b2 : 128 < n
  · go_enter Try.func25, Try.ntmps25
    go_wp2
    go_ret3
    exact rangePost (spec_none fun i _ _ => bOk_bad (.inr b2)) rfl rfl rfl
  by_cases b3 : b ≤ a
  · go_enter Try.func25, Try.ntmps25
    go_wp2
    go_ret3
    exact rangePost (spec_none fun i _ _ => by omega) rfl rfl rfl
  by_cases p0 : p = 0
  · subst p0
    go_enter Try.func25, Try.ntmps25
    go_wp2_with (first | (go_at_call 37; refine (index_any _ _ _ _).mono ?_; rintro e w' ⟨rfl, rfl⟩))
    go_ret3
    exact rangePost (spec_in c.out (range_clamp (by omega) (by omega) (by omega))) rfl rfl rfl
  by_cases p3 : p = 3
  · subst p3
    rcases Int.lt_or_le a 0 with e1 | e1 <;> rcases Int.lt_or_le n b with e2 | e2
    all_goals
      go_enter Try.func25, Try.ntmps25
      go_wp2
      all_goals go_ret3
      all_goals first
        | (refine rangePost (spec_in c.out (range_const_no ?_ ?_ ?_)) rfl rfl rfl <;> omega)
        | (refine rangePost (spec_in c.out (range_const ?_ ?_ ?_)) ?_ ?_ rfl <;> omega)
  by_cases p12 : p = 1 ∨ p = 2
  · have hp : Hid (p = 1 ∨ p = 2) := p12
    have f0 : (p == 0) = false := by simp; omega
    have f3 : (p == 3) = false := by simp; omega
    have f12 : (p == 1) = true ∨ (p == 2) = true := by simpa using p12
    clear p0 p3 p12
    rcases f12 with f | f
    all_goals
      go_enter Try.func25, Try.ntmps25
      go_wp2
      go_loop [17, 18, 19] (fun l h i => ∃ lo hi k : Int, a ≤ k ∧ k ≤ min b (a + 2 * n) ∧ Seen a k n p lo hi ∧ l = .int .i64 lo ∧ h = .int .i64 hi ∧ i = .int .i64 k) (fun _ _ i => (b - intOf i).toNat)
      case atStart => exact ⟨_, _, a, by omega, by omega, Seen.start a n p, rfl, rfl, rfl⟩
      case round =>
        obtain ⟨lo, hi, k, k1, k2, hs, rfl, rfl, rfl⟩ := hrel
        have HS : Hid (Seen a k n p lo hi) := hs
        have B : Hid (0 ≤ bIdx k n p ∧ bIdx k n p < n) := bIdx_bdR k n p (bOk_yes (by omega) (by omega) (by have := hp.out; omega))
        clear hs
        by_cases hk : k < min b (a + 2 * n)
        · rcases Int.lt_or_le (bIdx k n p) lo with e1 | e1 <;> rcases Int.lt_or_le (bIdx k n p) hi with e2 | e2
          all_goals
            go_wp2_with (first | (go_at_call 37; refine (index_any _ _ _ _).mono ?_; rintro e w' ⟨rfl, rfl⟩))
            all_goals go_round
            case rel => exact ⟨min lo (bIdx k n p), max hi (bIdx k n p), k + 1, by omega, by omega, HS.out.step k1 B.out.1 B.out.2 rfl rfl, by go_num, by go_num, by go_num⟩
            case measure => simp [intOf]; omega
        · go_wp2
          all_goals go_ret3
          all_goals exact rangePost (spec_in c.out (HS.out.range (by omega) (by omega) hp.out (by omega) (by omega) (by omega))) rfl rfl rfl
  · have f0 : (p == 0) = false := by simp; omega
    have f3 : (p == 3) = false := by simp; omega
    have f1 : (p == 1) = false := by simp; omega
    have f2 : (p == 2) = false := by simp; omega
    have P : Hid (p ≠ 0 ∧ p ≠ 1 ∧ p ≠ 2 ∧ p ≠ 3) := ⟨by omega, by omega, by omega, by omega⟩
    go_enter Try.func25, Try.ntmps25
    go_wp2
    go_ret3
    exact rangePost (spec_none fun i _ _ => bOk_pol P.out.1 P.out.2.1 P.out.2.2.1 P.out.2.2.2) rfl rfl rfl
end Go.Proofs.Ytlidacfokgdlgaa
