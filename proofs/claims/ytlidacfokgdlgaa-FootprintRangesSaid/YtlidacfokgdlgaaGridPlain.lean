/-
  Plain facts on the tiles of a grid, with no program in sight.
-/
import Derived.Test.YtlidacfokgdlgaaKA
namespace Go.Proofs.Ytlidacfokgdlgaa
def ceilD (a b : Int) : Int := if a < 0 then 0 else if b < 1 then 0 else if a % b = 0 then a / b else a / b + 1
def gOk (w h tw th : Int) : Bool := decide (1 ≤ w ∧ w ≤ 128 ∧ 1 ≤ h ∧ h ≤ 128 ∧ 1 ≤ tw ∧ tw ≤ 64 ∧ 1 ≤ th ∧ th ≤ 64)
def gNx (w h tw th : Int) : Int := if gOk w h tw th = true then ceilD w tw else 0
def gNy (w h tw th : Int) : Int := if gOk w h tw th = true then ceilD h th else 0
def gTok (w h tw th i : Int) : Bool := gOk w h tw th && decide (0 ≤ i ∧ i < gNx w h tw th * gNy w h tw th)
def gT0 (w h tw th i : Int) : Int := if gTok w h tw th i = true then i % gNx w h tw th * tw else 0
def gT1 (w h tw th i : Int) : Int := if gTok w h tw th i = true then i / gNx w h tw th * th else 0
def gT2 (w h tw th i : Int) : Int := if gTok w h tw th i = true then min (i % gNx w h tw th * tw + tw) w else 0
def gT3 (w h tw th i : Int) : Int := if gTok w h tw th i = true then min (i / gNx w h tw th * th + th) h else 0
def gOfOk (w h tw th x y : Int) : Bool := gOk w h tw th && decide (0 ≤ x ∧ x < w ∧ 0 ≤ y ∧ y < h)
def gOf (w h tw th x y : Int) : Int := if gOfOk w h tw th x y = true then y / th * gNx w h tw th + x / tw else 0

theorem gOk_iff {w h tw th : Int} : gOk w h tw th = true ↔ 1 ≤ w ∧ w ≤ 128 ∧ 1 ≤ h ∧ h ≤ 128 ∧ 1 ≤ tw ∧ tw ≤ 64 ∧ 1 ≤ th ∧ th ≤ 64 := by simp [gOk]
theorem gTok_iff {w h tw th i : Int} : gTok w h tw th i = true ↔ gOk w h tw th = true ∧ 0 ≤ i ∧ i < gNx w h tw th * gNy w h tw th := by simp [gTok]
theorem gOfOk_iff {w h tw th x y : Int} : gOfOk w h tw th x y = true ↔ gOk w h tw th = true ∧ 0 ≤ x ∧ x < w ∧ 0 ≤ y ∧ y < h := by simp [gOfOk]

/-- The number of parts of the length b that a takes. -/
theorem ceilD_spec {a b : Int} (ha : 1 ≤ a) (hb : 1 ≤ b) : 1 ≤ ceilD a b ∧ ceilD a b ≤ a ∧ (ceilD a b - 1) * b < a ∧ a ≤ ceilD a b * b := by
  have e := Int.mul_ediv_add_emod a b
  have m1 := Int.emod_nonneg a (b := b) (by omega)
  have m2 := Int.emod_lt_of_pos a (b := b) (by omega)
  have d0 : 0 ≤ a / b := Int.ediv_nonneg (by omega) (by omega)
  have le : a / b ≤ b * (a / b) := by
    have := Int.mul_le_mul_of_nonneg_right hb d0
    omega
  unfold ceilD
  rw [if_neg (by omega), if_neg (by omega)]
  split
  · rename_i h0
    have d1 : 1 ≤ a / b := by
      rcases Int.lt_or_le (a / b) 1 with h | h
      · have : a / b = 0 := by omega
        rw [this] at e; omega
      · exact h
    refine ⟨d1, by omega, ?_, by rw [Int.mul_comm]; omega⟩
    rw [Int.sub_mul, Int.mul_comm]; omega
  · refine ⟨by omega, by omega, ?_, ?_⟩
    · rw [Int.add_sub_cancel, Int.mul_comm]; omega
    · rw [Int.add_mul, Int.mul_comm (a / b)]; omega

theorem gN {w h tw th : Int} (hg : gOk w h tw th = true) : gNx w h tw th = ceilD w tw ∧ gNy w h tw th = ceilD h th := by simp [gNx, gNy, hg]
theorem gN_no {w h tw th : Int} (hg : gOk w h tw th = false) : gNx w h tw th = 0 ∧ gNy w h tw th = 0 := by simp [gNx, gNy, hg]

/-- The bounds on the numbers of tiles. -/
theorem gN_bd {w h tw th : Int} (hg : gOk w h tw th = true) : 1 ≤ gNx w h tw th ∧ gNx w h tw th ≤ 128 ∧ 1 ≤ gNy w h tw th ∧ gNy w h tw th ≤ 128 ∧ (gNx w h tw th - 1) * tw < w ∧ w ≤ gNx w h tw th * tw ∧ (gNy w h tw th - 1) * th < h ∧ h ≤ gNy w h tw th * th := by
  obtain ⟨e1, e2⟩ := gN hg
  obtain ⟨h1, h2, h3, h4, h5, h6, h7, h8⟩ := gOk_iff.1 hg
  obtain ⟨c1, c2, c3, c4⟩ := ceilD_spec h1 h5
  obtain ⟨d1, d2, d3, d4⟩ := ceilD_spec h3 h7
  rw [e1, e2]
  exact ⟨c1, by omega, d1, by omega, c3, c4, d3, d4⟩

theorem mul_le_pred {a n t : Int} (h : a ≤ n - 1) (ht : 0 ≤ t) : a * t ≤ (n - 1) * t := Int.mul_le_mul_of_nonneg_right h ht

/-- Row and column of a tile, and where they begin. -/
theorem tile_bd {w h tw th i : Int} (ht : gTok w h tw th i = true) :
    0 ≤ i % gNx w h tw th ∧ i % gNx w h tw th < gNx w h tw th ∧ 0 ≤ i / gNx w h tw th ∧ i / gNx w h tw th < gNy w h tw th ∧
    0 ≤ i % gNx w h tw th * tw ∧ i % gNx w h tw th * tw < w ∧ 0 ≤ i / gNx w h tw th * th ∧ i / gNx w h tw th * th < h := by
  obtain ⟨hg, h0, h1⟩ := gTok_iff.1 ht
  obtain ⟨n1, n2, n3, n4, n5, n6, n7, n8⟩ := gN_bd hg
  obtain ⟨g1, g2, g3, g4, g5, g6, g7, g8⟩ := gOk_iff.1 hg
  have m1 := Int.emod_nonneg i (b := gNx w h tw th) (by omega)
  have m2 := Int.emod_lt_of_pos i (b := gNx w h tw th) (by omega)
  have d1 : 0 ≤ i / gNx w h tw th := Int.ediv_nonneg h0 (by omega)
  have d2 : i / gNx w h tw th < gNy w h tw th := Int.ediv_lt_of_lt_mul (by omega) (by rw [Int.mul_comm]; exact h1)
  have p1 := mul_le_pred (a := i % gNx w h tw th) (n := gNx w h tw th) (t := tw) (by omega) (by omega)
  have p2 := mul_le_pred (a := i / gNx w h tw th) (n := gNy w h tw th) (t := th) (by omega) (by omega)
  exact ⟨m1, m2, d1, d2, Int.mul_nonneg m1 (by omega), by omega, Int.mul_nonneg d1 (by omega), by omega⟩
end Go.Proofs.Ytlidacfokgdlgaa
