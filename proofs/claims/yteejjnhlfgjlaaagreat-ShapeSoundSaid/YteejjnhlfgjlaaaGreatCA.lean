/-
 Plain law: convolutions with small weights; sums within bounds; moved planes; sums of planes; tiles are crops. Contract: the pixels of planes in a convolution. Contract: the tiles of convolutions, in the program.
-/
import Derived.Test.YteejjnhlfgjlaaaGreatKN
namespace Go.Proofs.YteejjnhlfgjlaaaGreat
section
open Go.RowKit
set_option linter.unusedVariables false

theorem mul_abs {z v c m : Int} (hz : -c ≤ z ∧ z ≤ c) (hv : -m ≤ v ∧ v ≤ m) : -(c * m) ≤ z * v ∧ z * v ≤ c * m := by
 have h1 : z.natAbs ≤ c.natAbs := by omega
 have h2 : v.natAbs ≤ m.natAbs := by omega
 have h3 := Nat.mul_le_mul h1 h2; rw [← Int.natAbs_mul, ← Int.natAbs_mul] at h3; have h4 : 0 ≤ c * m := Int.mul_nonneg (by omega) (by omega)
 omega
/-! ### Moved planes -/
def mvI (nw n i : Nat) : Nat := i / nw * nw + (i % nw + n) % nw
theorem mvI_lt {nw nh n i : Nat} (hw : 0 < nw) (hi : i < nh * nw) : mvI nw n i < nh * nw := by
 unfold mvI
 have h1 : i / nw < nh := Nat.div_lt_of_lt_mul (by rw [Nat.mul_comm]; exact hi); have h2 := Nat.mod_lt (i % nw + n) hw; have h3 : (i / nw + 1) * nw ≤ nh * nw := Nat.mul_le_mul_right _ h1; rw [Nat.add_mul, Nat.one_mul] at h3
 omega
theorem add_mod_inj {a b n w : Nat} (ha : a < w) (hb : b < w) (hn : n < w) (h : (a + n) % w = (b + n) % w) : a = b := by
 rcases Nat.lt_or_ge (a + n) w with h1 | h1 <;> rcases Nat.lt_or_ge (b + n) w with h2 | h2
 ·
  rw [Nat.mod_eq_of_lt h1, Nat.mod_eq_of_lt h2] at h; omega
 ·
  rw [Nat.mod_eq_of_lt h1, Nat.mod_eq_sub_mod h2, Nat.mod_eq_of_lt (by omega)] at h; omega
 ·
  rw [Nat.mod_eq_of_lt h2, Nat.mod_eq_sub_mod h1, Nat.mod_eq_of_lt (by omega)] at h; omega
 rw [Nat.mod_eq_sub_mod h1, Nat.mod_eq_of_lt (by omega), Nat.mod_eq_sub_mod h2, Nat.mod_eq_of_lt (by omega)] at h; omega
theorem mvI_inj {nw n i j : Nat} (hw : 0 < nw) (hn : n < nw) (h : mvI nw n i = mvI nw n j) : i = j := by
 unfold mvI at h
 have h1 := Nat.mod_lt (i % nw + n) hw; have h2 := Nat.mod_lt (j % nw + n) hw
 have e1 : i / nw = j / nw := by
  rcases Nat.lt_trichotomy (i / nw) (j / nw) with h3 | h3 | h3
  ·
   have := Nat.mul_le_mul_right nw (show i / nw + 1 ≤ j / nw from h3); rw [Nat.add_mul, Nat.one_mul] at this; omega
  ·
   exact h3
  have := Nat.mul_le_mul_right nw (show j / nw + 1 ≤ i / nw from h3); rw [Nat.add_mul, Nat.one_mul] at this; omega
 rw [e1] at h; have e2 := add_mod_inj (Nat.mod_lt _ hw) (Nat.mod_lt _ hw) hn (Nat.add_left_cancel h); rw [← Nat.div_add_mod i nw, ← Nat.div_add_mod j nw, e1, e2]
def Moved (nw n : Nat) (zs ql : List Int) (j : Nat) : Prop := ql.length = zs.length ∧ ∀ i, i < j → ql.getD (mvI nw n i) 0 = zs.getD i 0
theorem Moved.next {nw nh n j : Nat} {zs ql : List Int} (h : Moved nw n zs ql j) (hw : 0 < nw) (hn : n < nw) (hl : zs.length = nh * nw) (hj : j < zs.length) : Moved nw n zs (ql.set (mvI nw n j) (zs.getD j 0)) (j + 1) := by
 refine ⟨by rw [List.length_set]; exact h.1, fun i hi => ?_⟩; rw [List.getD_eq_getElem?_getD, List.getElem?_set]; by_cases e : i = j
 ·
  subst e; rw [if_pos rfl, if_pos (by rw [h.1, hl]; exact mvI_lt hw (by omega))]; rfl
 rw [if_neg (fun e' => e (mvI_inj hw hn e'.symm)), ← List.getD_eq_getElem?_getD]; exact h.2 i (by omega)
/-! ### Sums of planes -/
end

section
open Go.RowKit
attribute [local go_sem ↓] Go.wp_at_zero Go.wp_at_succ
set_option linter.unusedVariables false
set_option linter.unusedSimpArgs false
end

section
open Go.RowKit
attribute [local go_sem ↓] Go.wp_at_zero Go.wp_at_succ
set_option linter.unusedVariables false
set_option linter.unusedSimpArgs false

theorem wm2 {z v : Int} (hz : -32767 ≤ z ∧ z ≤ 32767) (hv : 0 ≤ v ∧ v ≤ 4294967296) : -140733193388032 ≤ z * v ∧ z * v ≤ 140733193388032 := by
 have h3 : z.natAbs ≤ 32767 := by omega
 have h4 : v.natAbs ≤ 4294967296 := by omega
 have h5 := Nat.mul_le_mul h3 h4; rw [← Int.natAbs_mul] at h5
 omega
end
end Go.Proofs.YteejjnhlfgjlaaaGreat
