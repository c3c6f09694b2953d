/-
  Plain law of box taps: how many coordinates an interval covers, and their lengths' sum; with no program in sight.
-/
import Derived.Test.YtaefdkinpaonkaaTabPlain
namespace Go.Proofs.Ytaefdkinpaonkaa
set_option linter.unusedVariables false

theorem bx_facts {n m : Int} {i : Nat} (hn : 1 ≤ n ∧ n ≤ 128) (hm : 1 ≤ m ∧ m ≤ 128) (hi : (i : Int) < m) : 0 ≤ (i : Int) * n ∧ (i : Int) * n ≤ 16256 ∧ ((i : Int) + 1) * n = (i : Int) * n + n ∧ 0 ≤ bxK n m i ∧ bxK n m i ≤ 16256 ∧ bxK n m i * m ≤ (i : Int) * n ∧ (i : Int) * n < bxK n m i * m + m := by
  have h1 : 0 ≤ (i : Int) * n := Int.mul_nonneg (by omega) (by omega)
  have h2 : (i : Int) * n ≤ 127 * 128 := Int.mul_le_mul (by omega) hn.2 (by omega) (by omega)
  have e := Int.mul_ediv_add_emod ((i : Int) * n) m
  have e1 := Int.emod_nonneg ((i : Int) * n) (b := m) (by omega)
  have e2 := Int.emod_lt_of_pos ((i : Int) * n) (b := m) (by omega)
  have h3 := Int.ediv_nonneg h1 (show 0 ≤ m by omega)
  have h4 := Int.ediv_le_self m h1
  unfold bxK
  rw [Int.mul_comm m] at e
  refine ⟨h1, by omega, by rw [Int.add_mul, Int.one_mul], h3, by omega, by omega, by omega⟩
theorem bx_lt {n m : Int} {i d : Nat} (hn : 1 ≤ n ∧ n ≤ 128) (hm : 1 ≤ m ∧ m ≤ 128) (hi : (i : Int) < m) : (bxK n m i + (d : Int)) * m < ((i : Int) + 1) * n ↔ d < bxN n m i := by
  obtain ⟨f1, f2, f3, f4, f5, f6, f7⟩ := bx_facts hn hm hi
  have key : (bxK n m i + (d : Int) < bxE n m i) ↔ (bxK n m i + (d : Int)) * m < ((i : Int) + 1) * n := by
    unfold bxE
    rw [show (bxK n m i + (d : Int) < (((i : Int) + 1) * n + (m - 1)) / m) ↔ (bxK n m i + (d : Int) + 1 ≤ (((i : Int) + 1) * n + (m - 1)) / m) from Iff.rfl, Int.le_ediv_iff_mul_le (by omega), Int.add_mul, Int.one_mul]
    omega
  rw [← key]; unfold bxN; omega
theorem bxN_pos {n m : Int} {i : Nat} (hn : 1 ≤ n ∧ n ≤ 128) (hm : 1 ≤ m ∧ m ≤ 128) (hi : (i : Int) < m) : 1 ≤ bxN n m i := by
  obtain ⟨f1, f2, f3, f4, f5, f6, f7⟩ := bx_facts hn hm hi
  have := (bx_lt (d := 0) hn hm hi).1 (by simp; omega)
  omega
theorem bxN_le {n m : Int} {i : Nat} (hn : 1 ≤ n ∧ n ≤ 128) (hm : 1 ≤ m ∧ m ≤ 128) (hi : (i : Int) < m) : bxN n m i ≤ 20000 := by
  obtain ⟨f1, f2, f3, f4, f5, f6, f7⟩ := bx_facts hn hm hi
  by_cases h : bxN n m i ≤ 20000
  · exact h
  · exfalso
    have := (bx_lt (d := 20000) hn hm hi).2 (by omega)
    have h2 : 20000 * 1 ≤ (bxK n m i + ((20000 : Nat) : Int)) * m := Int.mul_le_mul (by omega) hm.1 (by omega) (by omega)
    omega
/-- Where the coordinate d begins, cut to the interval. -/
def bxC (n m : Int) (i d : Nat) : Int := mxI ((i : Int) * n) (mnI (((i : Int) + 1) * n) ((bxK n m i + (d : Int)) * m))
theorem bxL_step {n m : Int} {i d : Nat} (hn : 1 ≤ n ∧ n ≤ 128) (hm : 1 ≤ m ∧ m ≤ 128) (hi : (i : Int) < m) (hd : d < bxN n m i) : bxL n m i d = bxC n m i (d + 1) - bxC n m i d ∧ bxC n m i d ≤ bxC n m i (d + 1) := by
  obtain ⟨f1, f2, f3, f4, f5, f6, f7⟩ := bx_facts hn hm hi
  have h1 := (bx_lt hn hm hi).2 hd
  have e1 : (bxK n m i + ((d + 1 : Nat) : Int)) * m = (bxK n m i + (d : Int)) * m + m := by
    rw [show bxK n m i + ((d + 1 : Nat) : Int) = (bxK n m i + (d : Int)) + 1 by omega, Int.add_mul, Int.one_mul]
  have e2 : (bxK n m i + (d : Int) + 1) * m = (bxK n m i + (d : Int)) * m + m := by rw [Int.add_mul, Int.one_mul]
  have e3 : bxK n m i * m ≤ (bxK n m i + (d : Int)) * m := Int.mul_le_mul_of_nonneg_right (by omega) (by omega)
  unfold bxL bxC
  rw [e1, e2, f3]
  rw [f3] at h1
  unfold mnI mxI
  (repeat' split) <;> omega
theorem bxC_zero {n m : Int} {i : Nat} (hn : 1 ≤ n ∧ n ≤ 128) (hm : 1 ≤ m ∧ m ≤ 128) (hi : (i : Int) < m) : bxC n m i 0 = (i : Int) * n := by
  obtain ⟨f1, f2, f3, f4, f5, f6, f7⟩ := bx_facts hn hm hi
  unfold bxC
  rw [f3, show bxK n m i + ((0 : Nat) : Int) = bxK n m i by simp]
  unfold mnI mxI
  (repeat' split) <;> omega
theorem bxC_all {n m : Int} {i : Nat} (hn : 1 ≤ n ∧ n ≤ 128) (hm : 1 ≤ m ∧ m ≤ 128) (hi : (i : Int) < m) : bxC n m i (bxN n m i) = (i : Int) * n + n := by
  obtain ⟨f1, f2, f3, f4, f5, f6, f7⟩ := bx_facts hn hm hi
  have h : ¬ ((bxK n m i + ((bxN n m i : Nat) : Int)) * m < ((i : Int) + 1) * n) := fun h => absurd ((bx_lt hn hm hi).1 h) (by omega)
  unfold bxC
  rw [f3] at *
  unfold mnI mxI
  (repeat' split) <;> omega
theorem bx_sumTo {n m : Int} {i : Nat} (hn : 1 ≤ n ∧ n ≤ 128) (hm : 1 ≤ m ∧ m ≤ 128) (hi : (i : Int) < m) (D : Nat) (hD : D ≤ bxN n m i) : sumN (bxL n m i) D = bxC n m i D - bxC n m i 0 := by
  induction D with
  | zero => simp [sumN]
  | succ D ih => have := ih (by omega); have h2 := (bxL_step hn hm hi (d := D) (by omega)).1; simp only [sumN]; omega
theorem bxC_mono {n m : Int} {i : Nat} (hn : 1 ≤ n ∧ n ≤ 128) (hm : 1 ≤ m ∧ m ≤ 128) (hi : (i : Int) < m) (D : Nat) (hD : D ≤ bxN n m i) : (i : Int) * n ≤ bxC n m i D ∧ bxC n m i D ≤ (i : Int) * n + n := by
  obtain ⟨f1, f2, f3, f4, f5, f6, f7⟩ := bx_facts hn hm hi
  unfold bxC; rw [f3]; unfold mnI mxI
  (repeat' split) <;> omega
theorem bxL_bd {n m : Int} {i d : Nat} (hn : 1 ≤ n ∧ n ≤ 128) (hm : 1 ≤ m ∧ m ≤ 128) (hi : (i : Int) < m) (hd : d < bxN n m i) : 0 ≤ bxL n m i d ∧ bxL n m i d ≤ n := by
  have h1 := bxL_step hn hm hi hd
  have h2 := bxC_mono hn hm hi d (by omega)
  have h3 := bxC_mono hn hm hi (d + 1) (by omega)
  omega
theorem sumN_eq {f g : Nat → Int} {n : Nat} (h : ∀ i, i < n → f i = g i) : sumN f n = sumN g n := by
  induction n with
  | zero => rfl
  | succ n ih => simp only [sumN]; rw [ih (fun i hi => h i (by omega)), h n (by omega)]
theorem bxLens_len (n m : Int) (i j : Nat) : (bxLens n m i j).length = j := by simp [bxLens]
theorem bxLens_next (n m : Int) (i j : Nat) : bxLens n m i j ++ [bxL n m i j] = bxLens n m i (j + 1) := (range_snoc _ _).symm
theorem bx_sum {n m : Int} {i : Nat} (hn : 1 ≤ n ∧ n ≤ 128) (hm : 1 ≤ m ∧ m ≤ 128) (hi : (i : Int) < m) : sumN (fun d => (bxLens n m i (bxN n m i)).getD d 0) (bxLens n m i (bxN n m i)).length = n := by
  rw [bxLens_len, sumN_eq (g := bxL n m i) (fun d hd => by unfold bxLens; exact rangeD _ _ hd), bx_sumTo hn hm hi _ (Nat.le_refl _), bxC_all hn hm hi, bxC_zero hn hm hi]; omega
theorem bxBad_at {n m : Int} {j : Nat} (h : 8 < bxN n m j) : ∀ k, j < k → bxBad n m k = true := by
  intro k hk
  induction k with
  | zero => omega
  | succ k ih =>
    simp only [bxBad]
    by_cases e : j = k
    · subst e; simp [h]
    · rw [ih (by omega)]; rfl
theorem bxBad_next {n m : Int} {j : Nat} (h : bxBad n m j = false) (h2 : ¬ (8 < bxN n m j)) : bxBad n m (j + 1) = false := by simp only [bxBad]; rw [h]; simp; omega
theorem bxT_no {n m s : Int} (h : bxCode n m s ≠ 0) : bxT n m s = [] := by unfold bxT; rw [if_neg h]
theorem bx_tg {n m s : Int} {k : Int} (h : tgCode n m s = k) (hk : k ≠ 0) : bxCode n m s = k := by unfold bxCode; rw [if_pos (by rw [h]; exact hk), h]
theorem bx_9 {n m s : Int} (h : tgCode n m s = 0) {j : Nat} (hj : (j : Int) < m) (h8 : 8 < bxN n m j) : bxCode n m s = 9 := by unfold bxCode; rw [if_neg (by rw [h]; simp), if_pos (bxBad_at h8 _ (by omega))]
theorem bx_0 {n m s : Int} (h : tgCode n m s = 0) (hb : bxBad n m m.toNat = false) : bxCode n m s = 0 := by unfold bxCode; rw [if_neg (by rw [h]; simp), if_neg (by rw [hb]; simp)]
end Go.Proofs.Ytaefdkinpaonkaa
