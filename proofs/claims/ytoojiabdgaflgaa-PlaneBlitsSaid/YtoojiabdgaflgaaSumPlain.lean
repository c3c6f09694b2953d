/-
  Plain law: finite sums.
-/
import Derived.Test.YtoojiabdgaflgaaPlain
namespace Go.Proofs.Ytoojiabdgaflgaa

def sumN (f : Nat → Int) : Nat → Int
  | 0 => 0
  | n + 1 => sumN f n + f n
theorem sumN_congr {f g : Nat → Int} {n : Nat} (h : ∀ i, i < n → f i = g i) : sumN f n = sumN g n := by
  induction n with
  | zero => rfl
  | succ n ih => rw [sumN, sumN, ih (fun i hi => h i (by omega)), h n (by omega)]
theorem sumN_none {f : Nat → Int} {n : Nat} (h : ∀ i, i < n → f i = 0) : sumN f n = 0 := by
  induction n with
  | zero => rfl
  | succ n ih => rw [sumN, ih (fun i hi => h i (by omega)), h n (by omega)]; rfl
theorem sumN_add (f g : Nat → Int) (n : Nat) : sumN (fun i => f i + g i) n = sumN f n + sumN g n := by
  induction n with
  | zero => rfl
  | succ n ih => simp only [sumN, ih]; omega
theorem sumN_swap (f : Nat → Nat → Int) (n m : Nat) : sumN (fun i => sumN (fun j => f i j) m) n = sumN (fun j => sumN (fun i => f i j) n) m := by
  induction n with
  | zero => exact (sumN_none fun _ _ => rfl).symm
  | succ n ih => simp only [sumN, ih, sumN_add]
theorem sumN_split (f : Nat → Int) (a b : Nat) : sumN f (a + b) = sumN f a + sumN (fun i => f (a + i)) b := by
  induction b with
  | zero => simp [sumN]
  | succ b ih => rw [← Nat.add_assoc, sumN, ih, sumN]; omega
theorem sumN_single {n k : Nat} (c : Int) (hk : k < n) : sumN (fun i => if i = k then c else 0) n = c := by
  obtain ⟨b, rfl⟩ : ∃ b, n = k + (1 + b) := ⟨n - k - 1, by omega⟩
  rw [sumN_split, sumN_split, sumN_none (fun i hi => by rw [if_neg (by omega)]), sumN_none (n := b) (fun i _ => by rw [if_neg (by omega)])]
  simp [sumN]
/-- The sum over a window. -/
theorem sumN_window (f : Nat → Int) {n a l : Nat} (h : a + l ≤ n) : sumN (fun i => if a ≤ i ∧ i < a + l then f i else 0) n = sumN (fun i => f (a + i)) l := by
  obtain ⟨b, rfl⟩ : ∃ b, n = a + (l + b) := ⟨n - a - l, by omega⟩
  rw [sumN_split, sumN_split, sumN_none (fun i hi => by rw [if_neg (by omega)]), sumN_none (n := b) (fun i _ => by rw [if_neg (by omega)]),
    sumN_congr (f := fun i => if a ≤ a + i ∧ a + i < a + l then f (a + i) else 0) (g := fun i => f (a + i)) (fun i hi => by rw [if_pos (by omega)])]
  omega
theorem sumN_nonneg {f : Nat → Int} {n : Nat} (h : ∀ i, i < n → 0 ≤ f i) : 0 ≤ sumN f n := by
  induction n with
  | zero => exact Int.le_refl _
  | succ n ih => have := ih (fun i hi => h i (by omega)); have := h n (by omega); rw [sumN]; omega
theorem sumN_le {f g : Nat → Int} {n : Nat} (h : ∀ i, i < n → f i ≤ g i) : sumN f n ≤ sumN g n := by
  induction n with
  | zero => exact Int.le_refl _
  | succ n ih => have := ih (fun i hi => h i (by omega)); have := h n (by omega); rw [sumN, sumN]; omega
theorem sumN_const (c : Int) (n : Nat) : sumN (fun _ => c) n = n * c := by
  induction n with
  | zero => simp [sumN]
  | succ n ih => rw [sumN, ih, Int.natCast_succ, Int.add_mul, Int.one_mul]
/-- One part of a sum of parts that are not negative. -/
theorem sumN_part {f : Nat → Int} {n : Nat} (h : ∀ i, i < n → 0 ≤ f i) {k : Nat} (hk : k < n) : f k ≤ sumN f n := by
  obtain ⟨b, rfl⟩ : ∃ b, n = k + (1 + b) := ⟨n - k - 1, by omega⟩
  rw [sumN_split, sumN_split]
  have h1 := sumN_nonneg (f := f) (n := k) (fun i hi => h i (by omega))
  have h2 := sumN_nonneg (f := fun i => f (k + (1 + i))) (n := b) (fun i hi => h _ (by omega))
  simp only [sumN, Nat.add_zero]
  omega
theorem countP_range {α : Type} (g : Nat → α) (p : α → Bool) (n : Nat) : (((List.range n).map g).countP p : Int) = sumN (fun i => if p (g i) = true then 1 else 0) n := by
  induction n with
  | zero => rfl
  | succ n ih =>
    rw [List.range_succ, List.map_append, List.countP_append, sumN, ← ih]
    simp only [List.map_cons, List.map_nil, List.countP_cons, List.countP_nil]
    split <;> simp
theorem countP_flat {α : Type} (g : Nat → List α) (p : α → Bool) (n : Nat) : (((List.range n).flatMap g).countP p : Int) = sumN (fun i => ((g i).countP p : Int)) n := by
  induction n with
  | zero => rfl
  | succ n ih => rw [List.range_succ, List.flatMap_append, List.countP_append, sumN, ← ih]; simp
/-- A turn of the numbers below n. -/
theorem sumN_turn (f : Nat → Int) (n t : Nat) (ht : t < n) : sumN (fun i => f ((i + t) % n)) n = sumN f n := by
  obtain ⟨b, rfl⟩ : ∃ b, n = b + t := ⟨n - t, by omega⟩
  rw [sumN_split, show b + t = t + b by omega, sumN_split f t b]
  rw [sumN_congr (f := fun i => f ((i + t) % (t + b))) (g := fun i => f (t + i)) (n := b) (fun i hi => by rw [Nat.mod_eq_of_lt (by omega), Nat.add_comm])]
  rw [sumN_congr (f := fun i => f ((b + i + t) % (t + b))) (g := f) (n := t) (fun i hi => by rw [show b + i + t = i + (t + b) by omega, Nat.add_mod_right, Nat.mod_eq_of_lt (by omega)])]
  omega
end Go.Proofs.Ytoojiabdgaflgaa
