/-
  Plain law: tiles of integral planes.
-/
import Derived.Test.YtoojiabdgaflgaaIntPlain
import Derived.Test.YtoojiabdgaflgaaHistPlain
namespace Go.Proofs.Ytoojiabdgaflgaa

/-- The pixel of a rectangle in its row k and column j. -/
def tPix (w : Int) (zs : List Int) (r0 r1 : Int) (k j : Nat) : Int := zs.getD ((r1 + k) * w + r0 + j).toNat 0
def tCol (w : Int) (zs : List Int) (r0 r1 : Int) (k j : Nat) : Int := sumN (fun a => tPix w zs r0 r1 a j) k
def tSum (w : Int) (zs : List Int) (r0 r1 : Int) (k j : Nat) : Int := sumN (fun b => tCol w zs r0 r1 k b) j
theorem tSum_rows (w : Int) (zs : List Int) (r0 r1 : Int) (k j : Nat) : tSum w zs r0 r1 k j = sumN (fun a => sumN (fun b => tPix w zs r0 r1 a b) j) k := by
  unfold tSum tCol; exact sumN_swap _ _ _
def tVal (w : Int) (zs : List Int) (r0 r1 : Int) (left top : List Int) (corner : Int) (k j : Nat) : Int :=
  left.getD k 0 + top.getD j 0 - corner + tSum w zs r0 r1 (k + 1) (j + 1)
/-- The values of the first k rows, and of the next row the first j. -/
def gridL (f : Nat → Nat → Int) (wd k j : Nat) : List Int := ((List.range k).flatMap fun a => (List.range wd).map (f a)) ++ (List.range j).map (f k)
theorem gridL_len (f : Nat → Nat → Int) (wd k j : Nat) : (gridL f wd k j).length = k * wd + j := by
  have : ((List.range k).flatMap fun a => (List.range wd).map (f a)).length = k * wd := by
    induction k with
    | zero => simp
    | succ k ih => rw [List.range_succ, List.flatMap_append, List.length_append, ih, Nat.add_mul]; simp
  simp [gridL, this]
theorem gridL_zero (f : Nat → Nat → Int) (wd : Nat) : gridL f wd 0 0 = [] := rfl
theorem gridL_next (f : Nat → Nat → Int) (wd k j : Nat) : gridL f wd k (j + 1) = gridL f wd k j ++ [f k j] := by
  simp [gridL, List.range_succ]
theorem gridL_row (f : Nat → Nat → Int) (wd k : Nat) : gridL f wd k wd = gridL f wd (k + 1) 0 := by
  simp [gridL, List.range_succ]
theorem gridL_all (f : Nat → Nat → Int) (wd k : Nat) {P : Int → Prop} : (∀ v ∈ gridL f wd k 0, P v) ↔ ∀ a, a < k → ∀ b, b < wd → P (f a b) := by
  simp only [gridL, List.range_zero, List.map_nil, List.append_nil, List.mem_flatMap, List.mem_range, List.mem_map]
  constructor
  · intro h a ha b hb; exact h _ ⟨a, ha, b, hb, rfl⟩
  · rintro h v ⟨a, ha, b, hb, rfl⟩; exact h a ha b hb
theorem gridL_get (f : Nat → Nat → Int) (wd k j : Nat) (a b : Nat) (hb : b < wd) (h : a < k ∨ (a = k ∧ b < j)) : (gridL f wd k j).getD (a * wd + b) 0 = f a b := by
  induction k generalizing j with
  | zero =>
    rcases h with h | ⟨rfl, h⟩
    · omega
    · simp [gridL, List.getD_eq_getElem?_getD, h]
  | succ k ih =>
    have e : gridL f wd (k + 1) j = gridL f wd k wd ++ (List.range j).map (f (k + 1)) := by rw [gridL_row]; simp [gridL]
    rw [e, List.getD_eq_getElem?_getD, List.getElem?_append, gridL_len]
    by_cases hk : a < k + 1
    · have : a * wd + b < k * wd + wd := by
        have : a * wd ≤ k * wd := Nat.mul_le_mul_right _ (by omega)
        omega
      rw [if_pos this, ← List.getD_eq_getElem?_getD]
      exact ih wd (by omega)
    · obtain ⟨rfl, hj⟩ : a = k + 1 ∧ b < j := by omega
      rw [Nat.add_mul, Nat.one_mul, if_neg (by omega), show k * wd + wd + b - (k * wd + wd) = b by omega]
      simp [hj]
/-- The sums of the columns down to row k, those of the first j with that row. -/
def colL (w : Int) (zs : List Int) (r0 r1 : Int) (wd k j : Nat) : List Int := (List.range wd).map fun b => if b < j then tCol w zs r0 r1 (k + 1) b else tCol w zs r0 r1 k b
theorem colL_len (w : Int) (zs : List Int) (r0 r1 : Int) (wd k j : Nat) : (colL w zs r0 r1 wd k j).length = wd := by simp [colL]
theorem colL_zero (w : Int) (zs : List Int) (r0 r1 : Int) (wd : Nat) : colL w zs r0 r1 wd 0 0 = List.replicate wd 0 := by
  refine List.ext_getElem (by simp [colL]) fun i h1 h2 => ?_
  simp [colL, tCol, sumN]
theorem colL_get (w : Int) (zs : List Int) (r0 r1 : Int) (wd k j b : Nat) (hb : b < wd) : (colL w zs r0 r1 wd k j).getD b 0 = if b < j then tCol w zs r0 r1 (k + 1) b else tCol w zs r0 r1 k b := by
  simp [colL, List.getD_eq_getElem?_getD, hb]
theorem colL_row (w : Int) (zs : List Int) (r0 r1 : Int) (wd k : Nat) : colL w zs r0 r1 wd k wd = colL w zs r0 r1 wd (k + 1) 0 := by
  refine List.ext_getElem (by simp [colL]) fun i h1 h2 => ?_
  simp [colL] at h1
  simp [colL, h1]
theorem colL_next (w : Int) (zs : List Int) (r0 r1 : Int) (wd k j : Nat) (hj : j < wd) : (colL w zs r0 r1 wd k j).set j ((colL w zs r0 r1 wd k j).getD j 0 + tPix w zs r0 r1 k j) = colL w zs r0 r1 wd k (j + 1) := by
  have hg := colL_get w zs r0 r1 wd k j j hj
  rw [if_neg (by omega)] at hg
  rw [hg]
  refine List.ext_getElem (by simp [colL]) fun i h1 h2 => ?_
  rw [List.getElem_set]
  by_cases e : j = i
  · subst e; simp [colL, tCol, sumN]
  · simp only [e, if_false, colL, List.getElem_map, List.getElem_range]
    by_cases h : i < j
    · rw [if_pos h, if_pos (by omega)]
    · rw [if_neg h, if_neg (by omega)]

def tAll (w : Int) (zs : List Int) (r0 r1 : Int) (left top : List Int) (corner : Int) : List Int := gridL (tVal w zs r0 r1 left top corner) top.length left.length 0
def tCode (w h mx : Int) (zs : List Int) (r0 r1 r2 r3 : Int) (left top : List Int) (corner : Int) : Int :=
  if pValid w h mx zs = false then 1 else if iOk w h mx = false then 11 else if (!rEmpty r0 r1 r2 r3 && rInside r0 r1 r2 r3 0 0 w h) = false then 8
  else if ¬ ((left.length : Int) = r3 - r1 ∧ (top.length : Int) = r2 - r0) then 8
  else if (allIn (w * h * mx) [corner] && allIn (w * h * mx) left && allIn (w * h * mx) top) = false then 2
  else if allIn (w * h * mx) (tAll w zs r0 r1 left top corner) = false then 2 else 0
def tIf (w h mx : Int) (zs : List Int) (r0 r1 r2 r3 : Int) (left top : List Int) (corner x : Int) : Int := if tCode w h mx zs r0 r1 r2 r3 left top corner = 0 then x else 0
def tList (w h mx : Int) (zs : List Int) (r0 r1 r2 r3 : Int) (left top : List Int) (corner : Int) : List Int := if tCode w h mx zs r0 r1 r2 r3 left top corner = 0 then tAll w zs r0 r1 left top corner else []

theorem sumN_bd {f : Nat → Int} {n : Nat} {c : Int} (h : ∀ i, i < n → 0 ≤ f i ∧ f i ≤ c) : 0 ≤ sumN f n ∧ sumN f n ≤ n * c :=
  ⟨sumN_nonneg fun i hi => (h i hi).1, by have := sumN_le (g := fun _ => c) (fun i hi => (h i hi).2); rwa [sumN_const] at this⟩
theorem tPix_bd {w h mx : Int} {zs : List Int} (hv : pValid w h mx zs = true) (r0 r1 : Int) (k j : Nat) : 0 ≤ tPix w zs r0 r1 k j ∧ tPix w zs r0 r1 k j ≤ mx := by
  have hm := (pOk_iff.1 (pValid_iff.1 hv).1).2.2.2.2.2.1
  unfold tPix
  rcases Nat.lt_or_ge ((r1 + k) * w + r0 + j).toNat zs.length with h' | h'
  · rw [List.getD_eq_getElem?_getD, List.getElem?_eq_getElem h']
    exact (pValid_iff.1 hv).2.2 _ (List.getElem_mem h')
  · rw [List.getD_eq_getElem?_getD, List.getElem?_eq_none h']
    show (0 : Int) ≤ 0 ∧ (0 : Int) ≤ mx
    omega
theorem tCol_bd {w h mx : Int} {zs : List Int} (hv : pValid w h mx zs = true) (r0 r1 : Int) {k : Nat} (hk : k ≤ 128) (j : Nat) : 0 ≤ tCol w zs r0 r1 k j ∧ tCol w zs r0 r1 k j ≤ 549755813888 := by
  have hm := (pOk_iff.1 (pValid_iff.1 hv).1).2.2.2.2.2
  have h1 := sumN_bd (f := fun a => tPix w zs r0 r1 a j) (n := k) (fun i _ => tPix_bd hv r0 r1 i j)
  have h2 : (k : Int) * mx ≤ 128 * 4294967296 := Int.mul_le_mul (by omega) hm.2 (by omega) (by omega)
  unfold tCol
  omega
theorem tSum_bd {w h mx : Int} {zs : List Int} (hv : pValid w h mx zs = true) (r0 r1 : Int) {k j : Nat} (hk : k ≤ 128) (hj : j ≤ 128) : 0 ≤ tSum w zs r0 r1 k j ∧ tSum w zs r0 r1 k j ≤ 70368744177664 := by
  have h1 := sumN_bd (f := fun b => tCol w zs r0 r1 k b) (n := j) (fun i _ => tCol_bd hv r0 r1 hk i)
  have h2 : (j : Int) * 549755813888 ≤ 128 * 549755813888 := Int.mul_le_mul_of_nonneg_right (by omega) (by omega)
  unfold tSum
  omega
end Go.Proofs.Ytoojiabdgaflgaa
