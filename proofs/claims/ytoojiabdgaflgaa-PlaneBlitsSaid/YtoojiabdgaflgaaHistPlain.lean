/-
  Plain law: histograms.
-/
import Derived.Test.YtoojiabdgaflgaaPlanePlain
namespace Go.Proofs.Ytoojiabdgaflgaa

def hBin (v mx n : Int) : Int := if 1 ≤ mx ∧ mx ≤ 4294967296 ∧ 0 ≤ v ∧ v ≤ mx ∧ 1 ≤ n ∧ n ≤ 128 then v * n / (mx + 1) else 0
theorem hBin_bd {v mx n : Int} (hn : 1 ≤ n) : 0 ≤ hBin v mx n ∧ hBin v mx n < n := by
  unfold hBin
  split
  · rename_i h
    obtain ⟨h1, h2, h3, h4, h5, h6⟩ := h
    have p : 0 ≤ v * n := Int.mul_nonneg h3 (by omega)
    refine ⟨Int.ediv_nonneg p (by omega), Int.ediv_lt_of_lt_mul (by omega) ?_⟩
    have : v * n ≤ mx * n := Int.mul_le_mul_of_nonneg_right h4 (by omega)
    rw [Int.mul_add, Int.mul_one, Int.mul_comm n mx]
    omega
  · omega

def bump (l : List Int) (i : Nat) : List Int := l.set i (l.getD i 0 + 1)
def hCols (g : Nat → Nat) (l : List Int) : Nat → List Int
  | 0 => l
  | j + 1 => bump (hCols g l j) (g j)
def hRows (g : Nat → Nat → Nat) (wd n : Nat) : Nat → List Int
  | 0 => List.replicate n 0
  | k + 1 => hCols (g k) (hRows g wd n k) wd

/-- A list of n counts, none above m. -/
structure Cnt (l : List Int) (n : Nat) (m : Nat) : Prop where
  len : l.length = n
  bd : ∀ i, 0 ≤ l.getD i 0 ∧ l.getD i 0 ≤ m
theorem Cnt.zero (n : Nat) : Cnt (List.replicate n 0) n 0 := ⟨by simp, fun i => by
  rw [List.getD_eq_getElem?_getD]
  rcases Nat.lt_or_ge i n with h | h
  · simp [h]
  · simp [h]⟩
theorem Cnt.bump {l : List Int} {n m : Nat} (h : Cnt l n m) (i : Nat) : Cnt (bump l i) n (m + 1) := by
  refine ⟨by simp [Go.Proofs.Ytoojiabdgaflgaa.bump, h.len], fun j => ?_⟩
  have hj := h.bd j
  have hi := h.bd i
  unfold Go.Proofs.Ytoojiabdgaflgaa.bump
  rw [List.getD_eq_getElem?_getD, List.getElem?_set]
  split
  · split
    · rename_i e _; subst e
      show 0 ≤ l.getD i 0 + 1 ∧ l.getD i 0 + 1 ≤ ((m + 1 : Nat) : Int)
      omega
    · show (0 : Int) ≤ 0 ∧ (0 : Int) ≤ ((m + 1 : Nat) : Int)
      omega
  · rw [← List.getD_eq_getElem?_getD]; omega
theorem Cnt.cols {l : List Int} {n m : Nat} (h : Cnt l n m) (g : Nat → Nat) : ∀ j, Cnt (hCols g l j) n (m + j)
  | 0 => h
  | j + 1 => by have := (h.cols g j).bump (g j); rw [← Nat.add_assoc]; exact this
theorem Cnt.rows (g : Nat → Nat → Nat) (wd n : Nat) : ∀ k, Cnt (hRows g wd n k) n (k * wd)
  | 0 => by rw [Nat.zero_mul]; exact Cnt.zero n
  | k + 1 => by have := (Cnt.rows g wd n k).cols (g k) wd; rw [Nat.add_mul, Nat.one_mul]; exact this

def hG (w mx bins x0 y0 : Int) (zs : List Int) (k j : Nat) : Nat := (hBin (zs.getD (((y0 + k) * w + x0).toNat + j) 0) mx bins).toNat
def hOk (w h mx : Int) (zs : List Int) (bins r0 r1 r2 r3 : Int) : Int :=
  if pValid w h mx zs = false then 1 else if ¬ (1 ≤ bins ∧ bins ≤ 128) then 9 else if (!rEmpty r0 r1 r2 r3 && rInside r0 r1 r2 r3 0 0 w h) = false then 8 else 0
def hList (w h mx : Int) (zs : List Int) (bins r0 r1 r2 r3 : Int) : List Int :=
  if hOk w h mx zs bins r0 r1 r2 r3 = 0 then hRows (hG w mx bins r0 r1 zs) (r2 - r0).toNat bins.toNat (r3 - r1).toNat else []

theorem inside_iff {w h r0 r1 r2 r3 : Int} (hw : 1 ≤ w) (hw' : w ≤ 128) (hh : 1 ≤ h) (hh' : h ≤ 128) : (!rEmpty r0 r1 r2 r3 && rInside r0 r1 r2 r3 0 0 w h) = true ↔ 0 ≤ r0 ∧ r0 < r2 ∧ r2 ≤ w ∧ 0 ≤ r1 ∧ r1 < r3 ∧ r3 ≤ h := by
  have v : rValid 0 0 w h = true := rValid_iff.2 (.inr (by omega))
  constructor
  · intro hc
    simp only [Bool.and_eq_true, Bool.not_eq_true', rInside, Bool.or_eq_true, decide_eq_true_eq] at hc
    obtain ⟨he, ⟨hv, _⟩, hc⟩ := hc
    rcases hc with hc | hc
    · rw [he] at hc; simp at hc
    · rcases rValid_iff.1 hv with h0 | h0
      · rw [rEmpty_iff.2 h0] at he; simp at he
      · omega
  · intro hc
    have he : rEmpty r0 r1 r2 r3 = false := by rw [← Bool.not_eq_true, rEmpty_iff]; omega
    have hv : rValid r0 r1 r2 r3 = true := rValid_iff.2 (.inr (by omega))
    simp [he, rInside, hv, v]
    omega
end Go.Proofs.Ytoojiabdgaflgaa
