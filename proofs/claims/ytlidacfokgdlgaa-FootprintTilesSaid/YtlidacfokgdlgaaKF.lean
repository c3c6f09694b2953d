/-
  Plain law: round shifts, clamping, weights and the bounds of sums. Contracts: round shifts, clamping, weights and the bounds of sums, in the program. Contracts: round shifts, clamping, weights and the bounds of sums, in the reference.
-/
import Derived.Test.YtlidacfokgdlgaaKA
import Derived.Test.YtlidacfokgdlgaaKX
namespace Go.Proofs.Ytlidacfokgdlgaa
section
/-- The round shift of a by s. -/
def shV (a s : Int) : Int := if -17592186044416 ≤ a ∧ a ≤ 17592186044416 ∧ 0 ≤ s ∧ s ≤ 24 then (if s = 0 then a else (a + 2 ^ (s - 1).toNat) / 2 ^ s.toNat) else 0
/-- The number from 0 to m that is nearest. -/
def clV (v m : Int) : Int := if m < 0 ∨ v < 0 then 0 else if m < v then m else v
def wOk (z : Int) : Bool := decide (-32767 ≤ z ∧ z ≤ 32767)
def wAll (l : List Int) : Bool := l.all wOk
def wCode (l : List Int) : Int := if l.length = 0 ∨ 81 < l.length then 9 else if wAll l = true then 0 else 10
def accOk (z : Int) : Bool := decide (-17592186044416 ≤ z ∧ z ≤ 17592186044416)
def shOk (s : Int) : Bool := decide (0 ≤ s ∧ s ≤ 24)
def sideOk (s : Int) : Bool := decide (1 ≤ s ∧ s ≤ 9)
def valOk (s : Int) : Bool := decide (1 ≤ s ∧ s ≤ 4294967296)
def mnI (x y : Int) : Int := if y < x then y else x
def mxI (x y : Int) : Int := if x < y then y else x
def bLo (l : List Int) (lo hi : Int) (n : Nat) : Int := sumN (fun i => mnI (l.getD i 0 * lo) (l.getD i 0 * hi)) n
def bHi (l : List Int) (lo hi : Int) (n : Nat) : Int := sumN (fun i => mxI (l.getD i 0 * lo) (l.getD i 0 * hi)) n
def bArg (l : List Int) (lo hi : Int) : Bool := decide (wCode l = 0 ∧ lo ≤ hi ∧ -68719476736 ≤ lo ∧ hi ≤ 68719476736)
def bdOk (l : List Int) (lo hi : Int) : Bool := bArg l lo hi && (accOk (bLo l lo hi l.length) && accOk (bHi l lo hi l.length))
def bdLo (l : List Int) (lo hi : Int) : Int := if bdOk l lo hi = true then bLo l lo hi l.length else 0
def bdHi (l : List Int) (lo hi : Int) : Int := if bdOk l lo hi = true then bHi l lo hi l.length else 0

theorem pow_pos' (n : Nat) : (0 : Int) < 2 ^ n := Int.pow_pos (by decide)
theorem pow_le {n m : Nat} (h : n ≤ m) : (2 : Int) ^ n ≤ 2 ^ m := by
  obtain ⟨k, rfl⟩ : ∃ k, m = n + k := ⟨m - n, by omega⟩
  rw [Int.pow_add]
  have h1 := pow_pos' n
  have h2 : (1 : Int) ≤ 2 ^ k := by have := pow_pos' k; omega
  have h3 : (2 : Int) ^ n * 1 ≤ 2 ^ n * 2 ^ k := Int.mul_le_mul_of_nonneg_left h2 (Int.le_of_lt h1)
  omega
/-- A shift's two powers. -/
theorem sh_pow {s : Int} (h : 1 ≤ s) (h' : s ≤ 24) : 1 ≤ (2 : Int) ^ (s - 1).toNat ∧ (2 : Int) ^ (s - 1).toNat ≤ 8388608 ∧ (2 : Int) ^ s.toNat = 2 * 2 ^ (s - 1).toNat := by
  have h1 := pow_pos' (s - 1).toNat
  have h2 := pow_le (show (s - 1).toNat ≤ 23 by omega)
  have h3 : s.toNat = (s - 1).toNat + 1 := by omega
  refine ⟨by omega, by simpa using h2, ?_⟩
  rw [h3, Int.pow_succ]; simp; omega
theorem clV_bd {v m : Int} (hm : 0 ≤ m) : 0 ≤ clV v m ∧ clV v m ≤ m := by
  unfold clV; split
  · omega
  · split <;> omega
theorem shV_zero {a : Int} (h : -17592186044416 ≤ a ∧ a ≤ 17592186044416) : shV a 0 = a := by
  unfold shV; rw [if_pos ⟨h.1, h.2, by omega, by omega⟩, if_pos rfl]
theorem clV_id {v m : Int} (h : 0 ≤ v) (h' : v ≤ m) : clV v m = v := by
  unfold clV; rw [if_neg (by omega), if_neg (by omega)]
theorem shV_no {a s : Int} (h : ¬ (-17592186044416 ≤ a ∧ a ≤ 17592186044416 ∧ 0 ≤ s ∧ s ≤ 24)) : shV a s = 0 := by unfold shV; rw [if_neg h]
theorem shV_yes {a s P Q : Int} (h : -17592186044416 ≤ a ∧ a ≤ 17592186044416 ∧ 1 ≤ s ∧ s ≤ 24) (hP : (2 : Int) ^ (s - 1).toNat = P) (hQ : (2 : Int) ^ s.toNat = Q) : shV a s = (a + P) / Q := by
  unfold shV; rw [if_pos ⟨h.1, h.2.1, by omega, by omega⟩, if_neg (by omega), hP, hQ]
theorem shV_bd (a s : Int) : -17592186044416 ≤ shV a s ∧ shV a s ≤ 17592186044416 := by
  by_cases h : -17592186044416 ≤ a ∧ a ≤ 17592186044416 ∧ 0 ≤ s ∧ s ≤ 24
  · by_cases h0 : s = 0
    · subst h0; rw [shV_zero ⟨h.1, h.2.1⟩]; omega
    · obtain ⟨p1, p2, p3⟩ := sh_pow (s := s) (by omega) (by omega)
      obtain ⟨P, hP⟩ : ∃ P, (2 : Int) ^ (s - 1).toNat = P := ⟨_, rfl⟩
      rw [shV_yes (by omega) hP p3, hP]
      rw [hP] at p1 p2
      have e := Int.mul_ediv_add_emod (a + P) (2 * P)
      have m1 := Int.emod_nonneg (a + P) (b := 2 * P) (by omega)
      have m2 := Int.emod_lt_of_pos (a + P) (b := 2 * P) (by omega)
      obtain ⟨q, hq⟩ : ∃ q, (a + P) / (2 * P) = q := ⟨_, rfl⟩
      rw [hq] at e ⊢
      constructor
      · by_cases hn : q < 0
        · have : 2 * P * q ≤ 2 * q := by
            have := Int.mul_le_mul_of_nonpos_right (show (2 : Int) ≤ 2 * P by omega) (show q ≤ 0 by omega)
            omega
          omega
        · omega
      · by_cases hn : 0 < q
        · have : P * q ≥ P := by
            have : P * 1 ≤ P * q := Int.mul_le_mul_of_nonneg_left (show (1 : Int) ≤ q by omega) (by omega)
            omega
          have h4 : 1 * q ≤ P * q := Int.mul_le_mul_of_nonneg_right (by omega) (by omega)
          have h5 : 2 * P * q = P * q + P * q := by rw [Int.mul_assoc]; omega
          omega
        · omega
  · rw [shV_no h]; omega
theorem wAll_iff {l : List Int} : wAll l = true ↔ ∀ i, i < l.length → -32767 ≤ l.getD i 0 ∧ l.getD i 0 ≤ 32767 := by
  unfold wAll
  rw [List.all_eq_true]
  constructor
  · intro h i hi
    have := h _ (getD_mem' hi)
    simpa [wOk] using this
  · intro h z hz
    obtain ⟨i, hi, rfl⟩ := mem_getD' hz
    simpa [wOk] using h i hi
theorem wAll_bad {l : List Int} {i : Nat} (hi : i < l.length) (h : wOk (l.getD i 0) = false) : wAll l = false := by
  rw [← Bool.not_eq_true, wAll_iff]; intro h'
  have := h' i hi
  unfold wOk at h
  have := of_decide_eq_false h
  omega
theorem wCode_zero {l : List Int} : wCode l = 0 ↔ 1 ≤ l.length ∧ l.length ≤ 81 ∧ wAll l = true := by
  unfold wCode
  split
  · constructor <;> intro h <;> omega
  · split
    · rename_i h0 h1
      constructor
      · intro _; exact ⟨by omega, by omega, h1⟩
      · intro _; rfl
    · rename_i h
      constructor
      · intro h; omega
      · intro h'; exact absurd h'.2.2 h
theorem bArg_iff {l : List Int} {lo hi : Int} : bArg l lo hi = true ↔ wCode l = 0 ∧ lo ≤ hi ∧ -68719476736 ≤ lo ∧ hi ≤ 68719476736 := by simp [bArg]
/-- A product of a weight and a permitted number. -/
theorem wmul_bd {z v : Int} (hz : -32767 ≤ z ∧ z ≤ 32767) (hv : -68719476736 ≤ v ∧ v ≤ 68719476736) : -2251799813685248 ≤ z * v ∧ z * v ≤ 2251799813685248 := by
  have h1 : z.natAbs ≤ 32767 := by omega
  have h2 : v.natAbs ≤ 68719476736 := by omega
  have h3 := Nat.mul_le_mul h1 h2
  rw [← Int.natAbs_mul] at h3
  omega
theorem mn_bd {x y c : Int} (hx : -c ≤ x ∧ x ≤ c) (hy : -c ≤ y ∧ y ≤ c) : -c ≤ mnI x y ∧ mnI x y ≤ c := by unfold mnI; split <;> omega
theorem mx_bd {x y c : Int} (hx : -c ≤ x ∧ x ≤ c) (hy : -c ≤ y ∧ y ≤ c) : -c ≤ mxI x y ∧ mxI x y ≤ c := by unfold mxI; split <;> omega
theorem sumN_abs {f : Nat → Int} {n : Nat} {c : Int} (h : ∀ i, i < n → -c ≤ f i ∧ f i ≤ c) : -(n * c) ≤ sumN f n ∧ sumN f n ≤ n * c := by
  induction n with
  | zero => simp [sumN]
  | succ n ih =>
    have h1 := ih (fun i hi => h i (by omega))
    have h2 := h n (by omega)
    have h3 : ((n + 1 : Nat) : Int) * c = n * c + c := by rw [Int.natCast_succ, Int.add_mul, Int.one_mul]
    rw [sumN, h3]; omega
theorem b_bd {l : List Int} {lo hi : Int} (h : bArg l lo hi = true) {n : Nat} (hn : n ≤ l.length) :
    -182395784908505088 ≤ bLo l lo hi n ∧ bLo l lo hi n ≤ 182395784908505088 ∧ -182395784908505088 ≤ bHi l lo hi n ∧ bHi l lo hi n ≤ 182395784908505088 := by
  obtain ⟨hw, h1, h2, h3⟩ := bArg_iff.1 h
  obtain ⟨w1, w2, w3⟩ := wCode_zero.1 hw
  have w4 := wAll_iff.1 w3
  have hm : ∀ i, i < n → ∀ v, -68719476736 ≤ v ∧ v ≤ 68719476736 → -2251799813685248 ≤ l.getD i 0 * v ∧ l.getD i 0 * v ≤ 2251799813685248 := fun i hi v hv => wmul_bd (w4 i (by omega)) hv
  have a1 := sumN_abs (f := fun i => mnI (l.getD i 0 * lo) (l.getD i 0 * hi)) (n := n) (c := 2251799813685248) (fun i hi' => mn_bd (hm i hi' lo (by omega)) (hm i hi' hi (by omega)))
  have a2 := sumN_abs (f := fun i => mxI (l.getD i 0 * lo) (l.getD i 0 * hi)) (n := n) (c := 2251799813685248) (fun i hi' => mx_bd (hm i hi' lo (by omega)) (hm i hi' hi (by omega)))
  unfold bLo bHi
  omega
theorem bdOk_no {l : List Int} {lo hi : Int} (h : bdOk l lo hi = false) : bdLo l lo hi = 0 ∧ bdHi l lo hi = 0 := by
  unfold bdLo bdHi; rw [if_neg (by rw [h]; simp), if_neg (by rw [h]; simp)]; exact ⟨rfl, rfl⟩
theorem bdOk_yes {l : List Int} {lo hi : Int} (h : bdOk l lo hi = true) : bdLo l lo hi = bLo l lo hi l.length ∧ bdHi l lo hi = bHi l lo hi l.length := by
  unfold bdLo bdHi; rw [if_pos h, if_pos h]; exact ⟨rfl, rfl⟩
end

section
open Go.RowKit
attribute [local go_sem ↓] Go.wp_at_zero Go.wp_at_succ
set_option linter.unusedVariables false
set_option linter.unusedSimpArgs false
end

section
open Go.RowKit
attribute [local go_sem ↓] Go.wp_at_zero Go.wp_at_succ
set_option linter.unusedVariables false
set_option linter.unusedSimpArgs false
end
end Go.Proofs.Ytlidacfokgdlgaa
