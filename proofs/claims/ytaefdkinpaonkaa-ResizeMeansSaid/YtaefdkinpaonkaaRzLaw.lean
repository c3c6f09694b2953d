/-
  Resizing with tables: bounds of the sums, and what the code 0 says.
-/
import Derived.Test.YtaefdkinpaonkaaRzPlain
namespace Go.Proofs.Ytaefdkinpaonkaa
set_option linter.unusedVariables false

def rzR (w h : Int) (zs : List Int) (p f : Int) (t : Int × List Int) (k : Int) (n : Nat) : Int := sumN (fun i => t.2.getD i 0 * pPix w h zs p f (t.1 + (i : Int)) k) n
theorem rzM_eq (w h : Int) (zs : List Int) (p f : Int) (t : Int × List Int) (s k : Int) : rzM w h zs p f t s k = shV (rzR w h zs p f t k t.2.length) s := rfl
theorem rzR_bd {w h mx : Int} {zs : List Int} {p f : Int} (hv : pValid w h mx zs = true) (hb : bValid p f mx = true) {t : Int × List Int} (hw : wAll t.2 = true) (k : Int) {n : Nat} (hn : n ≤ t.2.length) (h8 : t.2.length ≤ 8) :
    -1266598740492288 ≤ rzR w h zs p f t k n ∧ rzR w h zs p f t k n ≤ 1266598740492288 := by
  have hp := pOk_iff.1 (pValid_iff.1 hv).1
  have := sumN_abs (f := fun i => t.2.getD i 0 * pPix w h zs p f (t.1 + (i : Int)) k) (n := n) (c := 140733193388032) (fun i hi => wmul2 (wAll_iff.1 hw i (by omega)) (by have := pPix_bd hv hb (t.1 + (i : Int)) k; omega))
  unfold rzR
  omega
theorem rzS_bd (w h : Int) (zs : List Int) (p f : Int) (tx : Int × List Int) {ty : Int × List Int} (hw : wAll ty.2 = true) (s : Int) {n : Nat} (hn : n ≤ ty.2.length) (h8 : ty.2.length ≤ 8) :
    -5187988441056411648 ≤ rzS w h zs p f tx ty s n ∧ rzS w h zs p f tx ty s n ≤ 5187988441056411648 := by
  have := sumN_abs (f := fun j => ty.2.getD j 0 * rzM w h zs p f tx s (ty.1 + (j : Int))) (n := n) (c := 576443160117379072) (fun i hi => spT_bd (wAll_iff.1 hw i (by omega)) (shV_bd _ _))
  unfold rzS
  omega
theorem tvTo_zero {ts : Tbl} : ∀ {n j : Nat}, tvTo ts n = 0 → j < n → tvOne (ts.getD j (0, [])) = 0
  | 0, j, _, h => by omega
  | n + 1, j, h0, h => by
    simp only [tvTo] at h0
    by_cases hz : tvTo ts n = 0
    · rw [if_neg (by simpa using hz)] at h0
      rcases Nat.lt_or_ge j n with h' | h'
      · exact tvTo_zero hz h'
      · rw [show j = n by omega]; exact h0
    · rw [if_pos hz] at h0; exact absurd h0 hz
theorem tvOne_zero {p : Int × List Int} (h : tvOne p = 0) : 1 ≤ p.2.length ∧ p.2.length ≤ 8 ∧ wAll p.2 = true ∧ -128 ≤ p.1 ∧ p.1 ≤ 256 := by
  unfold tvOne at h
  split at h
  · omega
  split at h
  · omega
  rename_i h2
  split at h
  · omega
  rename_i h3
  simp only [tFirst, Bool.not_eq_false, decide_eq_true_eq] at h3
  exact ⟨by omega, by omega, by simpa using h2, h3.1, h3.2⟩
theorem tv_all {ts : Tbl} {n : Int} (h : tvCode ts n = 0) {j : Nat} (hj : j < ts.length) : tvOne (ts.getD j (0, [])) = 0 := by
  unfold tvCode at h
  split at h
  · omega
  · exact tvTo_zero h hj
theorem rz_zero {W H mx : Int} {x y : Tbl} {s s2 out : Int} (h : rzCode W H mx x y s s2 out = 0) : tvCode x W = 0 ∧ tvCode y H = 0 ∧ (x.length : Int) * (y.length : Int) ≤ 4096 ∧ 0 ≤ s ∧ s ≤ 24 ∧ 0 ≤ s2 ∧ s2 ≤ 24 ∧ 1 ≤ mx ∧ mx ≤ 4294967296 ∧ 1 ≤ out ∧ out ≤ 4294967296 ∧ acCode mx s x y = 0 := by
  unfold rzCode at h
  split at h
  · omega
  rename_i h1
  split at h
  · omega
  rename_i h2
  split at h
  · omega
  rename_i h3
  split at h
  · omega
  rename_i h4
  split at h
  · omega
  rename_i h5
  simp only [Decidable.not_not, shOk, valOk, decide_eq_true_eq] at h4 h5
  exact ⟨by simpa using h1, by simpa using h2, by omega, by omega, by omega, by omega, by omega, by omega, by omega, by omega, by omega, h⟩
end Go.Proofs.Ytaefdkinpaonkaa
