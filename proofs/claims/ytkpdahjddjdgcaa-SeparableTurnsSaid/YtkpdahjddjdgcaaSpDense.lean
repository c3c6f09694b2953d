/-
  Plain law: rows and columns without a shift in between are the dense kernel of the products; what turns with a turned plane.
-/
import Derived.Test.YtkpdahjddjdgcaaSpPlain
namespace Go.Proofs.Ytkpdahjddjdgcaa
open Go.RowKit
set_option linter.unusedVariables false

theorem sumN_mul (c : Int) (g : Nat → Int) (n : Nat) : sumN (fun i => c * g i) n = c * sumN g n := by
  induction n with
  | zero => simp [sumN]
  | succ n ih => rw [sumN, sumN, ih, Int.mul_add]
theorem sumN_grid (f : Nat → Int) (n m : Nat) : sumN f (m * n) = sumN (fun j => sumN (fun i => f (j * n + i)) n) m := by
  induction m with
  | zero => simp [sumN]
  | succ m ih => rw [Nat.add_mul, Nat.one_mul, sumN_split, sumN, ih]
/-- The products of two lists, row by row. -/
def dnF (a b : List Int) (j i : Nat) : Int := a.getD i 0 * b.getD j 0
theorem dnF_bd {a b : List Int} (ha : ∀ i, -20 ≤ a.getD i 0 ∧ a.getD i 0 ≤ 20) (hb : ∀ i, -20 ≤ b.getD i 0 ∧ b.getD i 0 ≤ 20) (j i : Nat) : -400 ≤ dnF a b j i ∧ dnF a b j i ≤ 400 := by
  have := mul_abs (c := 20) (m := 20) (ha i) (hb j)
  unfold dnF; omega
theorem grid_all {f : Nat → Nat → Int} {wd k j : Nat} {P : Int → Prop} (h : ∀ a b, P (f a b)) : ∀ v ∈ gridL f wd k j, P v := by
  intro v hv
  unfold gridL at hv
  rw [List.mem_append] at hv
  rcases hv with hv | hv
  · rw [List.mem_flatMap] at hv
    obtain ⟨x, _, hx⟩ := hv
    obtain ⟨y, _, rfl⟩ := List.mem_map.1 hx
    exact h x y
  · obtain ⟨y, _, rfl⟩ := List.mem_map.1 hv
    exact h k y
theorem dn_bd {a b : List Int} (ha : ∀ i, -20 ≤ a.getD i 0 ∧ a.getD i 0 ≤ 20) (hb : ∀ i, -20 ≤ b.getD i 0 ∧ b.getD i 0 ≤ 20) (k j i : Nat) : -400 ≤ (gridL (dnF a b) a.length k j).getD i 0 ∧ (gridL (dnF a b) a.length k j).getD i 0 ≤ 400 := by
  rcases Nat.lt_or_ge i (gridL (dnF a b) a.length k j).length with h | h
  · exact grid_all (P := fun z => -400 ≤ z ∧ z ≤ 400) (dnF_bd ha hb) _ (getD_mem' h)
  · rw [List.getD_eq_getElem?_getD, List.getElem?_eq_none h]
    show (-400 : Int) ≤ 0 ∧ (0 : Int) ≤ 400
    omega
/-- Without a shift the sum of a row is what it is. -/
theorem spM_zero {w h mx : Int} {zs : List Int} {p f : Int} (hv : pValid w h mx zs = true) (hb : bValid p f mx = true) (hm : mx ≤ 65535) {row : List Int} (hr : 1 ≤ row.length ∧ row.length ≤ 9) (hwr : ∀ i, -20 ≤ row.getD i 0 ∧ row.getD i 0 ≤ 20) (x y : Int) :
    spM w h zs p f row 0 x y = spR w h zs p f row x y row.length := by
  have h1 := (pOk_iff.1 (pValid_iff.1 hv).1).2.2.2.2.2.1
  obtain ⟨_, b2, _⟩ := bd_of (ws := row) (lo := 0) (hi := mx) (c := 20) (m := 65535) (by omega) (by omega) (fun i _ => hwr i) (by omega) (by omega) (by omega) (by omega) (by omega) (by omega)
  have := acc_sum b2 (v := fun i => pPix w h zs p f (x + (i : Int) - (row.length : Int) / 2) y) (fun i _ => pPix_bd hv hb _ _)
  unfold spM
  exact shV_zero this
theorem dense_sum {w h mx : Int} {zs : List Int} {p f : Int} (hv : pValid w h mx zs = true) (hb : bValid p f mx = true) (hm : mx ≤ 65535) {a b : List Int} (hr : 1 ≤ a.length ∧ a.length ≤ 9) (hwr : ∀ i, -20 ≤ a.getD i 0 ∧ a.getD i 0 ≤ 20) (x y : Int) :
    spS w h zs p f a b 0 x y b.length = cvS w h zs p f (a.length : Int) (b.length : Int) (gridL (dnF a b) a.length b.length 0) x y (gridL (dnF a b) a.length b.length 0).length := by
  have hl : (gridL (dnF a b) a.length b.length 0).length = b.length * a.length := by rw [gridL_len]; rfl
  rw [hl]
  unfold spS cvS
  rw [sumN_grid]
  refine sumN_congr fun j hj => ?_
  rw [spM_zero hv hb hm hr hwr]
  unfold spR
  rw [← sumN_mul]
  refine sumN_congr fun i hi => ?_
  rw [cvF_at rfl hi, gridL_get _ _ _ _ j i hi (.inl hj)]
  unfold dnF
  rw [← Int.mul_assoc, Int.mul_comm (b.getD j 0)]
theorem dense_all {w h mx : Int} {zs : List Int} {p f : Int} (hv : pValid w h mx zs = true) (hb : bValid p f mx = true) (hm : mx ≤ 65535) {a b : List Int} (hr : 1 ≤ a.length ∧ a.length ≤ 9) (hwr : ∀ i, -20 ≤ a.getD i 0 ∧ a.getD i 0 ≤ 20) (s out r0 r1 r2 r3 : Int) :
    cvL w h zs p f (a.length : Int) (b.length : Int) (gridL (dnF a b) a.length b.length 0) s out r0 r1 r2 r3 = spL w h zs p f a b 0 s out r0 r1 r2 r3 := by
  unfold cvL spL rG
  refine gridL_congr fun k _ j _ => ?_
  unfold cvP spP
  rw [dense_sum hv hb hm hr hwr]
end Go.Proofs.Ytkpdahjddjdgcaa
