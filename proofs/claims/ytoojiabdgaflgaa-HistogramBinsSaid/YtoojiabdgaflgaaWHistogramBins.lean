/-
  The walk of HistogramBins: bins are monotone, the least and the greatest value are in the first and the last bin, bins that divide the range have equally many values.
-/
import Derived.Test.YtoojiabdgaflgaaSane12
import Derived.Test.YtoojiabdgaflgaaFrame
namespace Go.Proofs.Ytoojiabdgaflgaa
open Go.RowKit
set_option linter.unusedVariables false

theorem hBin_val {v m n : Int} (h1 : 1 ≤ m) (h2 : m ≤ 4294967296) (h3 : 0 ≤ v) (h4 : v ≤ m) (h5 : 1 ≤ n) (h6 : n ≤ 128) : hBin v m n = v * n / (m + 1) := by
  unfold hBin; rw [if_pos ⟨h1, h2, h3, h4, h5, h6⟩]
theorem hBin_mono {a b m n : Int} (h1 : 1 ≤ m) (h2 : m ≤ 4294967296) (h3 : 0 ≤ a) (h : a ≤ b) (h4 : b ≤ m) (h5 : 1 ≤ n) (h6 : n ≤ 128) : hBin a m n ≤ hBin b m n := by
  rw [hBin_val h1 h2 h3 (by omega) h5 h6, hBin_val h1 h2 (by omega) h4 h5 h6]
  exact Int.ediv_le_ediv (by omega) (Int.mul_le_mul_of_nonneg_right h (by omega))
theorem hBin_zero {m n : Int} (h1 : 1 ≤ m) (h2 : m ≤ 4294967296) (h5 : 1 ≤ n) (h6 : n ≤ 128) : hBin 0 m n = 0 := by
  rw [hBin_val h1 h2 (by omega) (by omega) h5 h6, Int.zero_mul, Int.zero_ediv]
theorem hBin_top {m n : Int} (h1 : 1 ≤ m) (h2 : m ≤ 4294967296) (h5 : 1 ≤ n) (h6 : n ≤ 128) (h : n ≤ m + 1) : hBin m m n = n - 1 := by
  rw [hBin_val h1 h2 (by omega) (by omega) h5 h6]
  have e : m * n = (m + 1 - n) + (n - 1) * (m + 1) := by
    rw [Int.sub_mul, Int.mul_add, Int.mul_one, Int.one_mul, Int.mul_comm n m]; omega
  rw [e, Int.add_mul_ediv_right _ _ (by omega), Int.ediv_eq_zero_of_lt (by omega) (by omega)]; omega
theorem hBin_even {a m n : Int} (h1 : 1 ≤ m) (h2 : m ≤ 4294967296) (h3 : 0 ≤ a) (h4 : a ≤ m) (h5 : 1 ≤ n) (h6 : n ≤ 128) (h : (m + 1) % n = 0) : 1 ≤ (m + 1) / n ∧ hBin a m n = a / ((m + 1) / n) := by
  obtain ⟨q, hq⟩ := Int.dvd_of_emod_eq_zero h
  have e : (m + 1) / n = q := by rw [hq]; exact Int.mul_ediv_cancel_left _ (by omega)
  have q1 : 1 ≤ q := by
    by_cases h' : q < 1
    · have : n * q ≤ n * 0 := Int.mul_le_mul_of_nonneg_left (by omega) (by omega)
      omega
    · omega
  rw [e, hBin_val h1 h2 h3 h4 h5 h6, hq, Int.mul_comm a n, Int.mul_ediv_mul_of_pos _ _ (by omega)]
  exact ⟨q1, rfl⟩

set_option maxRecDepth 100000 in
set_option maxHeartbeats 1600000 in
theorem walk_HistogramBins (v by' mx bins : Int) (W : World) (_ : I64 v) (_ : I64 by') (_ : I64 mx) (_ : I64 bins) :
    Calls Try.prog 6 #[.int .i64 v, .int .i64 by', .int .i64 mx, .int .i64 bins] W fun e w' => e = .returned (.bool true) ∧ Below W.heap.size W w' := by
  obtain ⟨m1, m2⟩ : 0 ≤ mx % 70000 ∧ mx % 70000 < 70000 := ⟨Int.emod_nonneg _ (by omega), Int.emod_lt_of_pos _ (by omega)⟩
  obtain ⟨n1, n2⟩ : 0 ≤ bins % 128 ∧ bins % 128 < 128 := ⟨Int.emod_nonneg _ (by omega), Int.emod_lt_of_pos _ (by omega)⟩
  obtain ⟨d1, d2⟩ : 0 ≤ by' % 1000 ∧ by' % 1000 < 1000 := ⟨Int.emod_nonneg _ (by omega), Int.emod_lt_of_pos _ (by omega)⟩
  generalize hm : mx % 70000 = m0 at *
  generalize hn : bins % 128 = n0 at *
  generalize hd : by' % 1000 = d0 at *
  obtain ⟨a1, a2⟩ : 0 ≤ v % (1 + m0 + 1) ∧ v % (1 + m0 + 1) < 1 + m0 + 1 := ⟨Int.emod_nonneg _ (by omega), Int.emod_lt_of_pos _ (by omega)⟩
  generalize ha : v % (1 + m0 + 1) = a at *
  have hb : ∃ b : Int, 0 ≤ b ∧ b ≤ 1 + m0 ∧ a ≤ b ∧ ((a + d0 ≤ 1 + m0 ∧ b = a + d0) ∨ (¬ a + d0 ≤ 1 + m0 ∧ b = 1 + m0)) := by
    by_cases h : a + d0 ≤ 1 + m0
    · exact ⟨a + d0, by omega, by omega, by omega, .inl ⟨h, rfl⟩⟩
    · exact ⟨1 + m0, by omega, by omega, by omega, .inr ⟨h, rfl⟩⟩
  obtain ⟨b, b0, b1, b2, hb⟩ := hb
  obtain ⟨x0, x1⟩ := hBin_bd (v := a) (mx := 1 + m0) (n := 1 + n0) (by omega)
  have xy := hBin_mono (m := 1 + m0) (n := 1 + n0) (by omega) (by omega) a1 b2 b1 (by omega) (by omega)
  have h0 := hBin_zero (m := 1 + m0) (n := 1 + n0) (by omega) (by omega) (by omega) (by omega)
  have HT := hid (hBin_top (m := 1 + m0) (n := 1 + n0) (by omega) (by omega) (by omega) (by omega))
  have HE := hid (hBin_even (a := a) (m := 1 + m0) (n := 1 + n0) (by omega) (by omega) a1 (by omega) (by omega) (by omega))
  have HX := hid (show ∀ z, hBin a (1 + m0) (1 + n0) = z → 0 ≤ z ∧ z < 1 + n0 from fun z e => by rw [← e]; exact ⟨x0, x1⟩)
  obtain ⟨q0, q1⟩ : 0 ≤ (1 + m0 + 1) % (1 + n0) ∧ (1 + m0 + 1) % (1 + n0) < 1 + n0 := ⟨Int.emod_nonneg _ (by omega), Int.emod_lt_of_pos _ (by omega)⟩
  rcases hb with ⟨hs, hb⟩ | ⟨hs, hb⟩
  all_goals
    subst hb
    by_cases ht : 1 + n0 ≤ 1 + m0 + 1
    · have h1 := HT.out ht
      by_cases he : (1 + m0 + 1) % (1 + n0) = 0
      · obtain ⟨e1, e2⟩ := HE.out he
        go_enter Try.func6, Try.ntmps6
        go_wp2_with (first | (go_at_call 23; refine (mod_any _ _ _ (by omega) (by omega)).mono ?_; rintro e w' ⟨rfl, rfl⟩) | (go_at_call 25; refine (bin_any _ _ _ _).mono ?_; rintro e w' ⟨rfl, rfl⟩) | (go_at_call 26; refine (sane12 _).mono ?_; rintro e w' ⟨rfl, hbs⟩))
        all_goals first
          | (go_ret; exact ⟨rfl, by assumption⟩)
          | (exfalso; omega)
      · have he' : ((1 + m0 + 1) % (1 + n0) != 0) = true := by simpa using he
        have he2 : ((1 + m0 + 1) % (1 + n0) == 0) = false := by simpa using he
        go_enter Try.func6, Try.ntmps6
        go_wp2_with (first | (go_at_call 23; refine (mod_any _ _ _ (by omega) (by omega)).mono ?_; rintro e w' ⟨rfl, rfl⟩) | (go_at_call 25; refine (bin_any _ _ _ _).mono ?_; rintro e w' ⟨rfl, rfl⟩) | (go_at_call 26; refine (sane12 _).mono ?_; rintro e w' ⟨rfl, hbs⟩))
        all_goals first
          | (go_ret; exact ⟨rfl, by assumption⟩)
          | (exfalso; omega)
    · have he : (1 + m0 + 1) % (1 + n0) = 1 + m0 + 1 := Int.emod_eq_of_lt (by omega) (by omega)
      have he' : (1 + m0 + 1 != 0) = true := by simp; omega
      have he2 : (1 + m0 + 1 == 0) = false := by simp; omega
      rw [he] at q0 q1
      go_enter Try.func6, Try.ntmps6
      go_wp2_with (first | (go_at_call 23; refine (mod_any _ _ _ (by omega) (by omega)).mono ?_; rintro e w' ⟨rfl, rfl⟩) | (go_at_call 25; refine (bin_any _ _ _ _).mono ?_; rintro e w' ⟨rfl, rfl⟩) | (go_at_call 26; refine (sane12 _).mono ?_; rintro e w' ⟨rfl, hbs⟩))
      all_goals first
        | (go_ret; exact ⟨rfl, by assumption⟩)
        | (exfalso; omega)
end Go.Proofs.Ytoojiabdgaflgaa
