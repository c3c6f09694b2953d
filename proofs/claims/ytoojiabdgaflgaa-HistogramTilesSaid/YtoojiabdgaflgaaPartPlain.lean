/-
  Plain law: the tiles of a grid part the plane: each point is in just the tile of Of, and the areas add up.
-/
import Derived.Test.YtoojiabdgaflgaaTouchPlain
namespace Go.Proofs.Ytoojiabdgaflgaa

/-- The area of the first k tiles. -/
def pArea (a b c d k : Int) : Int :=
  a * min (k / gNx a b c d * d) b + min (k % gNx a b c d * c) a * (min ((k / gNx a b c d + 1) * d) b - min (k / gNx a b c d * d) b)

theorem next_div_mod {n k : Int} (hn : 1 ≤ n) : ((k + 1) / n = k / n ∧ (k + 1) % n = k % n + 1 ∧ k % n + 1 < n) ∨ ((k + 1) / n = k / n + 1 ∧ (k + 1) % n = 0 ∧ k % n + 1 = n) := by
  have e := Int.mul_ediv_add_emod k n
  have m1 := Int.emod_nonneg k (b := n) (by omega)
  have m2 := Int.emod_lt_of_pos k (b := n) (by omega)
  have c := Int.mul_comm n (k / n)
  by_cases h : k % n + 1 < n
  · obtain ⟨d1, d2⟩ := div_mod_of (nx := n) (k := k / n) (j := k % n + 1) (by omega) h
    have : k / n * n + (k % n + 1) = k + 1 := by omega
    rw [this] at d1 d2
    exact .inl ⟨d1, d2, h⟩
  · obtain ⟨d1, d2⟩ := div_mod_of (nx := n) (k := k / n + 1) (j := 0) (by omega) (by omega)
    have : (k / n + 1) * n + 0 = k + 1 := by rw [Int.add_mul]; omega
    rw [this] at d1 d2
    exact .inr ⟨d1, d2, by omega⟩

theorem pArea_zero {a b c d : Int} (hg : gOk a b c d = true) : pArea a b c d 0 = 0 := by
  obtain ⟨g1, g2, g3, g4, g5, g6, g7, g8⟩ := gOk_iff.1 hg
  have e1 : min (0 * d) b = 0 := by rw [Int.zero_mul]; omega
  have e2 : min (0 * c) a = 0 := by rw [Int.zero_mul]; omega
  unfold pArea
  rw [Int.zero_ediv, Int.zero_emod, e1, e2]; simp

/-- What a round of the law meets. -/
theorem part_round {a b c d k : Int} (ht : gTok a b c d k = true) :
    rInside (gT0 a b c d k) (gT1 a b c d k) (gT2 a b c d k) (gT3 a b c d k) 0 0 a b = true ∧ gT2 a b c d k - gT0 a b c d k ≤ c ∧ gT3 a b c d k - gT1 a b c d k ≤ d ∧
    rValid (gT0 a b c d k) (gT1 a b c d k) (gT2 a b c d k) (gT3 a b c d k) = true ∧
    0 ≤ gT0 a b c d k ∧ gT0 a b c d k < gT2 a b c d k ∧ gT2 a b c d k ≤ a ∧ 0 ≤ gT1 a b c d k ∧ gT1 a b c d k < gT3 a b c d k ∧ gT3 a b c d k ≤ b ∧
    pArea a b c d (k + 1) = pArea a b c d k + (gT2 a b c d k - gT0 a b c d k) * (gT3 a b c d k - gT1 a b c d k) := by
  obtain ⟨t1, t2, t3, t4, t5, t6, t7, t8⟩ := tile_bd ht
  obtain ⟨hg, n0, nm⟩ := gTok_iff.1 ht
  obtain ⟨g1, g2, g3, g4, g5, g6, g7, g8⟩ := gOk_iff.1 hg
  obtain ⟨n1, n2, n3, n4, n5, n6, n7, n8⟩ := gN_bd hg
  simp only [gT0, gT1, gT2, gT3, ht, if_true]
  have v : rValid (k % gNx a b c d * c) (k / gNx a b c d * d) (min (k % gNx a b c d * c + c) a) (min (k / gNx a b c d * d + d) b) = true := rValid_iff.2 (.inr (by omega))
  have v' : rValid 0 0 a b = true := rValid_iff.2 (.inr (by omega))
  refine ⟨?_, by omega, by omega, v, t5, by omega, by omega, t7, by omega, by omega, ?_⟩
  · simp only [rInside, v, v', Bool.true_and, Bool.or_eq_true, decide_eq_true_eq]
    exact .inr (by omega)
  · have mx : min (k % gNx a b c d * c) a = k % gNx a b c d * c := by omega
    have my : min (k / gNx a b c d * d) b = k / gNx a b c d * d := by omega
    have y1 : (k / gNx a b c d + 1) * d = k / gNx a b c d * d + d := by rw [Int.add_mul, Int.one_mul]
    have x1 : (k % gNx a b c d + 1) * c = k % gNx a b c d * c + c := by rw [Int.add_mul, Int.one_mul]
    unfold pArea
    rcases next_div_mod (n := gNx a b c d) (k := k) (by omega) with ⟨e1, e2, e3⟩ | ⟨e1, e2, e3⟩
    · rw [e1, e2, mx, my, x1, y1]
      generalize k % gNx a b c d * c = X
      generalize k / gNx a b c d * d = Y
      rw [Int.sub_mul]; omega
    · have x2 : min (k % gNx a b c d * c + c) a = a := by
        have : (k % gNx a b c d + 1) * c = gNx a b c d * c := by rw [e3]
        omega
      rw [e1, e2, mx, my, y1, x2]
      have z : min (0 * c) a = 0 := by rw [Int.zero_mul]; omega
      rw [z, Int.zero_mul]
      generalize k % gNx a b c d * c = X
      generalize k / gNx a b c d * d = Y
      rw [Int.sub_mul, Int.mul_sub a]; omega

theorem pArea_end {a b c d : Int} (hg : gOk a b c d = true) : pArea a b c d (gNx a b c d * gNy a b c d) = a * b := by
  obtain ⟨g1, g2, g3, g4, g5, g6, g7, g8⟩ := gOk_iff.1 hg
  obtain ⟨n1, n2, n3, n4, n5, n6, n7, n8⟩ := gN_bd hg
  have e1 : gNx a b c d * gNy a b c d / gNx a b c d = gNy a b c d := Int.mul_ediv_cancel_left _ (by omega)
  have e2 : gNx a b c d * gNy a b c d % gNx a b c d = 0 := Int.mul_emod_right _ _
  have z : min (0 * c) a = 0 := by rw [Int.zero_mul]; omega
  have y : min (gNy a b c d * d) b = b := by omega
  unfold pArea
  rw [e1, e2, z, y]; simp

/-- The tile of a point. -/
theorem contains_iff {a b c d k x y : Int} (ht : gTok a b c d k = true) (hx : 0 ≤ x) (hx' : x < a) (hy : 0 ≤ y) (hy' : y < b) :
    rContains (gT0 a b c d k) (gT1 a b c d k) (gT2 a b c d k) (gT3 a b c d k) x y = true ↔ k = gOf a b c d x y := by
  obtain ⟨t1, t2, t3, t4, t5, t6, t7, t8⟩ := tile_bd ht
  obtain ⟨_, _, _, v, _⟩ := part_round ht
  obtain ⟨hg, n0, nm⟩ := gTok_iff.1 ht
  obtain ⟨g1, g2, g3, g4, g5, g6, g7, g8⟩ := gOk_iff.1 hg
  obtain ⟨n1, n2, n3, n4, n5, n6, n7, n8⟩ := gN_bd hg
  have ok : gOfOk a b c d x y = true := gOfOk_iff.2 ⟨hg, by omega⟩
  simp only [rContains, v, Bool.true_and, decide_eq_true_eq, gOf, ok, if_true]
  simp only [gT0, gT1, gT2, gT3, ht, if_true]
  have dx : x / c < gNx a b c d := Int.ediv_lt_of_lt_mul (by omega) (by omega)
  have dx0 : 0 ≤ x / c := Int.ediv_nonneg hx (by omega)
  have ex := Int.mul_ediv_add_emod x c
  have mx := Int.emod_nonneg x (b := c) (by omega)
  have mx' := Int.emod_lt_of_pos x (b := c) (by omega)
  have ey := Int.mul_ediv_add_emod y d
  have my := Int.emod_nonneg y (b := d) (by omega)
  have my' := Int.emod_lt_of_pos y (b := d) (by omega)
  have ek := Int.mul_ediv_add_emod k (gNx a b c d)
  constructor
  · rintro ⟨h1, h2, h3, h4⟩
    have q : x / c = k % gNx a b c d := by
      have a1 : k % gNx a b c d ≤ x / c := by rw [Int.le_ediv_iff_mul_le (by omega)]; exact h1
      have a2 : x / c < k % gNx a b c d + 1 := by rw [Int.ediv_lt_iff_lt_mul (by omega), Int.add_mul, Int.one_mul]; omega
      omega
    have r : y / d = k / gNx a b c d := by
      have a1 : k / gNx a b c d ≤ y / d := by rw [Int.le_ediv_iff_mul_le (by omega)]; exact h3
      have a2 : y / d < k / gNx a b c d + 1 := by rw [Int.ediv_lt_iff_lt_mul (by omega), Int.add_mul, Int.one_mul]; omega
      omega
    rw [q, r, Int.mul_comm]; exact ek.symm
  · intro h
    obtain ⟨d1, d2⟩ := div_mod_of (nx := gNx a b c d) (k := y / d) (j := x / c) dx0 dx
    rw [h, d1, d2]
    rw [Int.mul_comm (x / c), Int.mul_comm (y / d)]
    exact ⟨by omega, by omega, by omega, by omega⟩

theorem of_lt {a b c d x y : Int} (ok : gOfOk a b c d x y = true) : 0 ≤ gOf a b c d x y ∧ gOf a b c d x y < gNx a b c d * gNy a b c d := by
  obtain ⟨hg, hx, hx', hy, hy'⟩ := gOfOk_iff.1 ok
  obtain ⟨g1, g2, g3, g4, g5, g6, g7, g8⟩ := gOk_iff.1 hg
  obtain ⟨n1, n2, n3, n4, n5, n6, n7, n8⟩ := gN_bd hg
  have dx : x / c < gNx a b c d := Int.ediv_lt_of_lt_mul (by omega) (by omega)
  have dx0 : 0 ≤ x / c := Int.ediv_nonneg hx (by omega)
  have dy : y / d < gNy a b c d := Int.ediv_lt_of_lt_mul (by omega) (by omega)
  have dy0 : 0 ≤ y / d := Int.ediv_nonneg hy (by omega)
  simp only [gOf, ok, if_true]
  have p := Int.mul_nonneg dy0 (show (0:Int) ≤ gNx a b c d by omega)
  have q : y / d * gNx a b c d ≤ (gNy a b c d - 1) * gNx a b c d := Int.mul_le_mul_of_nonneg_right (by omega) (by omega)
  rw [Int.sub_mul, Int.mul_comm (gNy a b c d)] at q
  omega
end Go.Proofs.Ytoojiabdgaflgaa
