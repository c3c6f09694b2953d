/-
  Contracts of border.Range and of its reference: both answer the least and the greatest mapped coordinate; and of border.Valid and its reference.
-/
import Derived.Test.YtekpekhdkghnmaaBorder
import Derived.Test.YtekpekhdkghnmaaRange
import Derived.Deep.DeepCutAuto
namespace Go.Proofs.Ytekpekhdkghnmaa
open Go.RowKit

def RangePost (a b n p : Int) (w : World) (e : Ending) (w' : World) : Prop :=
  ∃ lo hi : Int, ∃ ok : Bool, e = .returned (.tuple #[.int .i64 lo, .int .i64 hi, .bool ok]) ∧ RangeSpec a b n p lo hi ok ∧ w = w'

theorem rangePost {a b n p lo hi lo' hi' : Int} {ok ok' : Bool} {w : World} (h : RangeSpec a b n p lo hi ok) (h1 : lo' = lo) (h2 : hi' = hi) (h3 : ok' = ok) :
    RangePost a b n p w (.returned (.tuple #[.int .i64 lo', .int .i64 hi', .bool ok'])) w := ⟨lo, hi, ok, by rw [h1, h2, h3], h, rfl⟩

set_option maxHeartbeats 800000 in
theorem range_any (a b n p : Int) (w : World) :
    Calls Try.prog 21 #[.int .i64 a, .int .i64 b, .int .i64 n, .int .i64 p] w (RangePost a b n p w) := by
  by_cases a1 : a < -1048576
  · go_enter Try.func21, Try.ntmps21
    go_wp2
    go_ret3
    exact rangePost (spec_out (by unfold inC; omega)) rfl rfl rfl
  by_cases a2 : 1048576 < a
  · go_enter Try.func21, Try.ntmps21
    go_wp2
    go_ret3
    exact rangePost (spec_out (by unfold inC; omega)) rfl rfl rfl
  by_cases a3 : b < -1048576
  · go_enter Try.func21, Try.ntmps21
    go_wp2
    go_ret3
    exact rangePost (spec_out (by unfold inC; omega)) rfl rfl rfl
  by_cases a4 : 1048576 < b
  · go_enter Try.func21, Try.ntmps21
    go_wp2
    go_ret3
    exact rangePost (spec_out (by unfold inC; omega)) rfl rfl rfl
  have c : Hid (inC a b) := ⟨by omega, by omega, by omega, by omega⟩
  by_cases b1 : n < 1
  · go_enter Try.func21, Try.ntmps21
    go_wp2
    go_ret3
    exact rangePost (spec_none fun i _ _ => bOk_bad (.inl b1)) rfl rfl rfl
  by_cases b2 : 128 < n
  · go_enter Try.func21, Try.ntmps21
    go_wp2
    go_ret3
    exact rangePost (spec_none fun i _ _ => bOk_bad (.inr b2)) rfl rfl rfl
  by_cases b3 : b ≤ a
  · go_enter Try.func21, Try.ntmps21
    go_wp2
    go_ret3
    exact rangePost (spec_none fun i _ _ => by omega) rfl rfl rfl
  by_cases p0 : p = 0
  · subst p0
    go_enter Try.func21, Try.ntmps21
    go_wp2_with (first | (go_at_call 13; refine (index_any _ _ _ _).mono ?_; rintro e w' ⟨rfl, rfl⟩))
    go_ret3
    exact rangePost (spec_in c.out (range_clamp (by omega) (by omega) (by omega))) rfl rfl rfl
  by_cases p3 : p = 3
  · subst p3
    rcases Int.lt_or_le a 0 with e1 | e1 <;> rcases Int.lt_or_le n b with e2 | e2
    all_goals
      go_enter Try.func21, Try.ntmps21
      go_wp2
      all_goals go_ret3
      all_goals first
        | (refine rangePost (spec_in c.out (range_const_no ?_ ?_ ?_)) rfl rfl rfl <;> omega)
        | (refine rangePost (spec_in c.out (range_const ?_ ?_ ?_)) ?_ ?_ rfl <;> omega)
  by_cases p12 : p = 1 ∨ p = 2
  · have hp : Hid (p = 1 ∨ p = 2) := p12
    have f0 : (p == 0) = false := by simp; omega
    have f3 : (p == 3) = false := by simp; omega
    have f12 : (p == 1) = true ∨ (p == 2) = true := by simpa using p12
    clear p0 p3 p12
    rcases f12 with f | f
    all_goals
      go_enter Try.func21, Try.ntmps21
      go_wp2
      go_loop [17, 18, 19] (fun l h i => ∃ lo hi k : Int, a ≤ k ∧ k ≤ min b (a + 2 * n) ∧ Seen a k n p lo hi ∧ l = .int .i64 lo ∧ h = .int .i64 hi ∧ i = .int .i64 k) (fun _ _ i => (b - intOf i).toNat)
      case atStart => exact ⟨_, _, a, by omega, by omega, Seen.start a n p, rfl, rfl, rfl⟩
      case round =>
        obtain ⟨lo, hi, k, k1, k2, hs, rfl, rfl, rfl⟩ := hrel
        have HS : Hid (Seen a k n p lo hi) := hs
        have B : Hid (0 ≤ bIdx k n p ∧ bIdx k n p < n) := bIdx_bd k n p (bOk_yes (by omega) (by omega) (by have := hp.out; omega))
        clear hs
        by_cases hk : k < min b (a + 2 * n)
        · rcases Int.lt_or_le (bIdx k n p) lo with e1 | e1 <;> rcases Int.lt_or_le (bIdx k n p) hi with e2 | e2
          all_goals
            go_wp2_with (first | (go_at_call 13; refine (index_any _ _ _ _).mono ?_; rintro e w' ⟨rfl, rfl⟩))
            all_goals go_round
            case rel => exact ⟨min lo (bIdx k n p), max hi (bIdx k n p), k + 1, by omega, by omega, HS.out.step k1 B.out.1 B.out.2 rfl rfl, by go_num, by go_num, by go_num⟩
            case measure => simp [intOf]; omega
        · go_wp2
          all_goals go_ret3
          all_goals exact rangePost (spec_in c.out (HS.out.range (by omega) (by omega) hp.out (by omega) (by omega) (by omega))) rfl rfl rfl
  · have f0 : (p == 0) = false := by simp; omega
    have f3 : (p == 3) = false := by simp; omega
    have f1 : (p == 1) = false := by simp; omega
    have f2 : (p == 2) = false := by simp; omega
    have P : Hid (p ≠ 0 ∧ p ≠ 1 ∧ p ≠ 2 ∧ p ≠ 3) := ⟨by omega, by omega, by omega, by omega⟩
    go_enter Try.func21, Try.ntmps21
    go_wp2
    go_ret3
    exact rangePost (spec_none fun i _ _ => bOk_pol P.out.1 P.out.2.1 P.out.2.2.1 P.out.2.2.2) rfl rfl rfl

set_option maxRecDepth 100000 in
set_option maxHeartbeats 1600000 in
theorem rrange_any (a b n p : Int) (w : World) :
    Calls Try.prog 22 #[.int .i64 a, .int .i64 b, .int .i64 n, .int .i64 p] w (RangePost a b n p w) := by
  by_cases a1 : a < -1048576
  · go_enter Try.func22, Try.ntmps22
    go_wp2
    go_ret3
    exact rangePost (spec_out (by unfold inC; omega)) rfl rfl rfl
  by_cases a2 : 1048576 < a
  · go_enter Try.func22, Try.ntmps22
    go_wp2
    go_ret3
    exact rangePost (spec_out (by unfold inC; omega)) rfl rfl rfl
  by_cases a3 : b < -1048576
  · go_enter Try.func22, Try.ntmps22
    go_wp2
    go_ret3
    exact rangePost (spec_out (by unfold inC; omega)) rfl rfl rfl
  by_cases a4 : 1048576 < b
  · go_enter Try.func22, Try.ntmps22
    go_wp2
    go_ret3
    exact rangePost (spec_out (by unfold inC; omega)) rfl rfl rfl
  have c : Hid (inC a b) := ⟨by omega, by omega, by omega, by omega⟩
  by_cases hbad : 600 < b - a ∧ (n < 1 ∨ 128 < n)
  · obtain ⟨h6, h7⟩ := hbad
    have hk : bOk a n 0 = false := bOk_bad h7
    have HB : Hid (n < 1 ∨ 128 < n) := h7
    clear h7
    go_enter Try.func22, Try.ntmps22
    go_wp2_with (first | (go_at_call 15; refine (rindex_any _ _ _ _).mono ?_; rintro e w' ⟨rfl, rfl⟩))
    go_ret3
    exact rangePost (spec_none fun i _ _ => bOk_bad HB.out) rfl rfl rfl
  have HB : Hid (¬ (600 < b - a ∧ (n < 1 ∨ 128 < n))) := hbad
  clear hbad
  go_enter Try.func22, Try.ntmps22
  go_upto_if 36 with (fail)
  go_cut [0, 1] (fun x y wx => ∃ a' b' : Int, x = .int .i64 a' ∧ y = .int .i64 b' ∧ w = wx ∧ (Covers a b n p a' b' ∨ (b < a ∧ a' = a ∧ b' = b)))
  case first =>
    by_cases h6 : 600 < b - a
    · have n1 : 1 ≤ n := by have := HB.out; omega
      have n2 : n ≤ 128 := by have := HB.out; omega
      have hk : bOk a n 0 = true := bOk_yes n1 n2 (by omega)
      by_cases hp : p = 0 ∨ p = 3
      · have HP : Hid (p = 0 ∨ p = 3) := hp
        have f : (p == 0) = true ∨ ((p == 0) = false ∧ (p == 3) = true) := by simp; omega
        clear hp
        rcases f with f | ⟨f, f'⟩
        all_goals
          rcases Int.lt_or_le (b - 1) 0 with e1 | e1
          · go_wp2_with (first | (go_at_call 15; refine (rindex_any _ _ _ _).mono ?_; rintro e w' ⟨rfl, rfl⟩))
            all_goals (go_meet; exact ⟨b - 1, b, rfl, rfl, rfl, .inl (covers_low c.out n1 n2 h6 HP.out e1)⟩)
          · rcases Int.lt_or_le a n with e2 | e2
            · have g1 : (if a < -1 then -1 else a) = max a (-1) := by split <;> omega
              have g2 : (if n + 1 < b then n + 1 else b) = min b (n + 1) := by split <;> omega
              have G := covers_mid (a' := max a (-1)) (b' := min b (n + 1)) c.out n1 n2 h6 HP.out e1 e2 rfl rfl
              have G' : Hid (Covers a b n p (max a (-1)) (min b (n + 1))) := G
              clear G g1 g2
              rcases Int.lt_or_le a (-1) with e3 | e3 <;> rcases Int.lt_or_le (n + 1) b with e4 | e4
              all_goals
                go_wp2_with (first | (go_at_call 15; refine (rindex_any _ _ _ _).mono ?_; rintro e w' ⟨rfl, rfl⟩))
                all_goals (go_meet; exact ⟨max a (-1), min b (n + 1), by go_num, by go_num, rfl, .inl G'.out⟩)
            · go_wp2_with (first | (go_at_call 15; refine (rindex_any _ _ _ _).mono ?_; rintro e w' ⟨rfl, rfl⟩))
              all_goals (go_meet; exact ⟨a, a + 1, rfl, rfl, rfl, .inl (covers_high c.out n1 n2 h6 HP.out e2)⟩)
      · have f0 : (p == 0) = false := by simp; omega
        have f3 : (p == 3) = false := by simp; omega
        have HP : Hid (p ≠ 0 ∧ p ≠ 3) := ⟨by omega, by omega⟩
        clear hp
        go_wp2_with (first | (go_at_call 15; refine (rindex_any _ _ _ _).mono ?_; rintro e w' ⟨rfl, rfl⟩))
        all_goals (go_meet; exact ⟨a, a + 2 * n, rfl, rfl, rfl, .inl (covers_period c.out n1 n2 h6 HP.out.1 HP.out.2)⟩)
    · go_wp2_with (fail)
      all_goals (go_meet; exact ⟨a, b, rfl, rfl, rfl, (covers_same c.out (by omega)).imp id fun h => ⟨h, rfl, rfl⟩⟩)
  case rest =>
    obtain ⟨a', b', rfl, rfl, rfl, hc⟩ := hcut
    have HC : Hid (Covers a b n p a' b' ∨ (b < a ∧ a' = a ∧ b' = b)) := hc
    have l1 : -2097152 ≤ a' ∧ a' ≤ 2097152 ∧ b' ≤ 2097152 := by
      rcases hc with hc | hc
      · exact ⟨hc.2.1, hc.2.2.2.1, hc.2.2.1⟩
      · omega
    obtain ⟨l1, l2, l3⟩ := l1
    clear hc
    go_wp2
    go_loop [13, 14, 15, 16] (fun l h o i => ∃ lo hi k : Int, ∃ ok : Bool, a' ≤ k ∧ (k ≤ b' ∨ k = a') ∧ IsRange a' k n p lo hi ok ∧ l = .int .i64 lo ∧ h = .int .i64 hi ∧ o = .bool ok ∧ i = .int .i64 k) (fun _ _ _ i => (b' - intOf i).toNat)
    case atStart => exact ⟨0, 0, a', false, by omega, .inr rfl, IsRange.empty _ _ _, rfl, rfl, rfl, rfl⟩
    case round =>
      obtain ⟨lo, hi, k, ok, k1, k2, hs, rfl, rfl, rfl, rfl⟩ := hrel
      have HS : Hid (IsRange a' k n p lo hi ok) := hs
      clear hs
      by_cases hk : k < b'
      · cases hO : bOk k n p with
        | false =>
          have HO : Hid (bOk k n p = false) := hO
          go_wp2_with (first | (go_at_call 15; refine (rindex_any _ _ _ _).mono ?_; rintro e w' ⟨rfl, rfl⟩))
          all_goals go_round
          case rel => exact ⟨lo, hi, k + 1, ok, by omega, .inl (by omega), HS.out.skip HO.out, rfl, rfl, rfl, by go_num⟩
          case measure => simp [intOf]; omega
        | true =>
          have HO : Hid (bOk k n p = true) := hO
          cases ok with
          | false =>
            go_wp2_with (first | (go_at_call 15; refine (rindex_any _ _ _ _).mono ?_; rintro e w' ⟨rfl, rfl⟩))
            all_goals go_round
            case rel => exact ⟨bIdx k n p, bIdx k n p, k + 1, true, by omega, .inl (by omega), HS.out.take k1 HO.out (by simp) (by simp), rfl, rfl, rfl, by go_num⟩
            case measure => simp [intOf]; omega
          | true =>
            rcases Int.lt_or_le (bIdx k n p) lo with e1 | e1 <;> rcases Int.lt_or_le hi (bIdx k n p) with e2 | e2
            all_goals
              go_wp2_with (first | (go_at_call 15; refine (rindex_any _ _ _ _).mono ?_; rintro e w' ⟨rfl, rfl⟩))
              all_goals go_round
              case rel => exact ⟨if bIdx k n p < lo then bIdx k n p else lo, if hi < bIdx k n p then bIdx k n p else hi, k + 1, true, by omega, .inl (by omega), HS.out.take k1 HO.out (by simp) (by simp), by first | rw [if_pos e1] | rw [if_neg (by omega)], by first | rw [if_pos e2] | rw [if_neg (by omega)], rfl, by go_num⟩
              case measure => simp [intOf]; omega
      · go_wp2
        all_goals go_ret3
        all_goals refine rangePost (spec_in c.out ?_) rfl rfl rfl
        all_goals
          rcases HC.out with hc | ⟨h1, rfl, rfl⟩
          · refine hc.2.2.2.2 _ _ _ ?_
            have h5 := hc.1
            rcases k2 with k2 | k2
            · rw [show b' = k from by omega]; exact HS.out
            · exact HS.out.widen (fun i _ _ _ => by omega) (fun i _ _ _ => by omega)
          · rcases k2 with k2 | k2
            · omega
            · subst k2; exact HS.out.widen (fun i _ _ _ => by omega) (fun i _ _ _ => by omega)
end Go.Proofs.Ytekpekhdkghnmaa
