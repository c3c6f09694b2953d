/-
  Plain law: merged lists of counts.
-/
import Derived.Test.YtoojiabdgaflgaaHistPlain
namespace Go.Proofs.Ytoojiabdgaflgaa

theorem all_getD {α : Type} {l : List α} {p : α → Bool} (d : α) : l.all p = true ↔ ∀ i, i < l.length → p (l.getD i d) = true := by
  rw [List.all_eq_true]
  constructor
  · intro h i hi
    rw [List.getD_eq_getElem?_getD, List.getElem?_eq_getElem hi]
    exact h _ (List.getElem_mem hi)
  · intro h x hx
    obtain ⟨i, hi, rfl⟩ := List.getElem_of_mem hx
    have := h i hi
    rwa [List.getD_eq_getElem?_getD, List.getElem?_eq_getElem hi] at this

def addAt (l : List Int) (i : Nat) (v : Int) : List Int := l.set i (l.getD i 0 + v)
def mCols (r l : List Int) : Nat → List Int
  | 0 => l
  | j + 1 => addAt (mCols r l j) j (r.getD j 0)
def mRows (L : List (List Int)) (n : Nat) : Nat → List Int
  | 0 => List.replicate n 0
  | k + 1 => mCols (L.getD k []) (mRows L n k) n
def mLens (L : List (List Int)) : Bool := L.all fun r => decide (r.length = (L.getD 0 []).length)
def mIn (L : List (List Int)) : Bool := L.all fun r => r.all fun v => decide (0 ≤ v ∧ v ≤ 4096)
def mSum (L : List (List Int)) : List Int := mRows L (L.getD 0 []).length L.length
def mTop (l : List Int) : Bool := l.all fun v => decide (v ≤ 4096)
def mCode (L : List (List Int)) : Int :=
  if L.length = 0 ∨ 4096 < L.length then 5 else if ¬ (1 ≤ (L.getD 0 []).length ∧ (L.getD 0 []).length ≤ 128) then 8 else if mLens L = false then 8 else if mIn L = false then 2 else if mTop (mSum L) = false then 3 else 0
def mList (L : List (List Int)) : List Int := if mCode L = 0 then mSum L else []

theorem mLens_iff {L : List (List Int)} : mLens L = true ↔ ∀ i, i < L.length → (L.getD i []).length = (L.getD 0 []).length := by
  unfold mLens; rw [all_getD []]; simp only [decide_eq_true_eq]
theorem mIn_iff {L : List (List Int)} : mIn L = true ↔ ∀ i, i < L.length → ∀ j, j < (L.getD i []).length → 0 ≤ (L.getD i []).getD j 0 ∧ (L.getD i []).getD j 0 ≤ 4096 := by
  unfold mIn; rw [all_getD []]
  constructor
  · intro h i hi j hj
    have := (all_getD 0).1 (h i hi) j hj
    simpa using this
  · intro h i hi
    rw [all_getD 0]
    intro j hj
    simpa using h i hi j hj
theorem mTop_iff {l : List Int} : mTop l = true ↔ ∀ i, i < l.length → l.getD i 0 ≤ 4096 := by
  unfold mTop; rw [all_getD 0]; simp only [decide_eq_true_eq]
theorem mLens_bad {L : List (List Int)} {i : Nat} (hi : i < L.length) (h : (L.getD i []).length ≠ (L.getD 0 []).length) : mLens L = false := by
  rw [← Bool.not_eq_true, mLens_iff]; exact fun a => h (a i hi)
theorem mIn_bad {L : List (List Int)} {i j : Nat} (hi : i < L.length) (hj : j < (L.getD i []).length) (h : (L.getD i []).getD j 0 < 0 ∨ 4096 < (L.getD i []).getD j 0) : mIn L = false := by
  rw [← Bool.not_eq_true, mIn_iff]; intro a; have := a i hi j hj; omega
theorem mTop_bad {l : List Int} {i : Nat} (hi : i < l.length) (h : 4096 < l.getD i 0) : mTop l = false := by
  rw [← Bool.not_eq_true, mTop_iff]; intro a; have := a i hi; omega

theorem Cnt.addAt {l : List Int} {n m : Nat} (h : Cnt l n m) (i : Nat) {v : Int} (h0 : 0 ≤ v) (h1 : v ≤ 4096) : Cnt (addAt l i v) n (m + 4096) := by
  refine ⟨by simp [Go.Proofs.Ytoojiabdgaflgaa.addAt, h.len], fun j => ?_⟩
  have hj := h.bd j
  have hi := h.bd i
  unfold Go.Proofs.Ytoojiabdgaflgaa.addAt
  rw [List.getD_eq_getElem?_getD, List.getElem?_set]
  split
  · split
    · rename_i e _; subst e
      show 0 ≤ l.getD i 0 + v ∧ l.getD i 0 + v ≤ ((m + 4096 : Nat) : Int)
      omega
    · show (0 : Int) ≤ 0 ∧ (0 : Int) ≤ ((m + 4096 : Nat) : Int)
      omega
  · rw [← List.getD_eq_getElem?_getD]; omega
theorem Cnt.mcols {l r : List Int} {n m : Nat} (h : Cnt l n m) : ∀ j, (∀ i, i < j → 0 ≤ r.getD i 0 ∧ r.getD i 0 ≤ 4096) → Cnt (mCols r l j) n (m + 4096 * j)
  | 0, _ => h
  | j + 1, hr => by
    have := (h.mcols j (fun i hi => hr i (by omega))).addAt j (hr j (by omega)).1 (hr j (by omega)).2
    rw [show m + 4096 * (j + 1) = m + 4096 * j + 4096 by omega]; exact this
theorem Cnt.mrows (L : List (List Int)) (n : Nat) : ∀ k, (∀ i, i < k → ∀ j, j < n → 0 ≤ (L.getD i []).getD j 0 ∧ (L.getD i []).getD j 0 ≤ 4096) → Cnt (mRows L n k) n (k * (4096 * n))
  | 0, _ => by rw [Nat.zero_mul]; exact Cnt.zero n
  | k + 1, hr => by
    have := (Cnt.mrows L n k (fun i hi => hr i (by omega))).mcols n (hr k (by omega))
    rw [Nat.add_mul, Nat.one_mul]; exact this
end Go.Proofs.Ytoojiabdgaflgaa
