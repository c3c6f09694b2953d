/-
  Plain facts on numbers and endings, with no program in sight: what a remainder is, when two endings are one.
-/
import Derived.WalkKit
namespace Go.Proofs.Ytoojiabdgaflgaa
open Go.RowKit

theorem ret_i {k : IntKind} {a b : Int} (h : a = b) : Ending.returned (.int k a) = .returned (.int k b) := by rw [h]
theorem ret_b {a b : Bool} (h : a = b) : Ending.returned (.bool a) = .returned (.bool b) := by rw [h]
theorem ret_ib {k : IntKind} {a b : Int} {c d : Bool} (h : a = b) (h' : c = d) : Ending.returned (.tuple #[.int k a, .bool c]) = .returned (.tuple #[.int k b, .bool d]) := by rw [h, h']
theorem ret_ii {k l : IntKind} {a b c d : Int} (h : a = b) (h' : c = d) : Ending.returned (.tuple #[.int k a, .int l c]) = .returned (.tuple #[.int k b, .int l d]) := by rw [h, h']
theorem ret_iib {k l : IntKind} {a b c d : Int} {p q : Bool} (h : a = b) (h' : c = d) (h'' : p = q) : Ending.returned (.tuple #[.int k a, .int l c, .bool p]) = .returned (.tuple #[.int k b, .int l d, .bool q]) := by rw [h, h', h'']

theorem tmod_neg (v n : Int) (hn : 1 ≤ n) (h0 : v < 0) : -n < v.tmod n ∧ v.tmod n ≤ 0 ∧ v % n = (if v.tmod n < 0 then v.tmod n + n else v.tmod n) := by
  have h1 : v.tmod n = - ((-v) % n) := by
    rw [← Int.neg_neg v, Int.neg_tmod, Int.tmod_eq_emod_of_nonneg (by omega)]; simp
  have h2 := Int.emod_nonneg (-v) (b := n) (by omega)
  have h3 := Int.emod_lt_of_pos (-v) (b := n) (by omega)
  have h4 := Int.emod_nonneg v (b := n) (by omega)
  have h5 := Int.emod_lt_of_pos v (b := n) (by omega)
  have e1 := Int.mul_ediv_add_emod v n
  have e2 := Int.mul_ediv_add_emod (-v) n
  refine ⟨by omega, by omega, ?_⟩
  have key : v % n = v.tmod n ∨ v % n = v.tmod n + n := by
    have : n ∣ (v % n - v.tmod n) := by
      rw [h1]
      refine ⟨-(v / n) - (-v) / n, ?_⟩
      rw [Int.mul_sub, Int.mul_neg]; omega
    obtain ⟨c, hc⟩ := this
    have : c = 0 ∨ c = 1 := by
      rcases Int.lt_trichotomy c 0 with h | h | h
      · have : n * c ≤ n * (-1) := Int.mul_le_mul_of_nonneg_left (by omega) (by omega)
        omega
      · exact .inl h
      · by_cases h' : c = 1
        · exact .inr h'
        · have : n * 2 ≤ n * c := Int.mul_le_mul_of_nonneg_left (by omega) (by omega)
          omega
    rcases this with rfl | rfl <;> omega
  split <;> omega

/-- The coordinate to which a policy maps i, 0 where there is none. -/
def bIdx (i n p : Int) : Int :=
  if n < 1 then 0 else if 128 < n then 0 else if p = 0 then min (max i 0) (n - 1) else if p = 1 then (if n ≤ i % (2 * n) then 2 * n - 1 - i % (2 * n) else i % (2 * n)) else if p = 2 then i % n else if p = 3 then (if 0 ≤ i then if i < n then i else 0 else 0) else 0
/-- Whether there is one. -/
def bOk (i n p : Int) : Bool :=
  if n < 1 then false else if 128 < n then false else if p = 0 then true else if p = 1 then true else if p = 2 then true else if p = 3 then (if 0 ≤ i then if i < n then true else false else false) else false
/-- Whether a policy and its fill are valid. -/
def bValid (p f m : Int) : Bool := if 0 ≤ p ∧ p < 3 then decide (f = 0) else if p = 3 then decide (0 ≤ f ∧ f ≤ m) else false

end Go.Proofs.Ytoojiabdgaflgaa
