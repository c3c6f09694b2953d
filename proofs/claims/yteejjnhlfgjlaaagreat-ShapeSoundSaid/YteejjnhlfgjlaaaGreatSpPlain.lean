/-
 Plain law: convolutions by rows and columns: the pixels, the sums, the errors.
-/
import Derived.Test.YteejjnhlfgjlaaaGreatCA
namespace Go.Proofs.YteejjnhlfgjlaaaGreat
open Go.RowKit
set_option linter.unusedVariables false

def spR (w h : Int) (zs : List Int) (p f : Int) (row : List Int) (x y : Int) (n : Nat) : Int := sumN (fun i => row.getD i 0 * pPix w h zs p f (x + (i : Int) - (row.length : Int) / 2) y) n
def spM (w h : Int) (zs : List Int) (p f : Int) (row : List Int) (shift x y : Int) : Int := shV (spR w h zs p f row x y row.length) shift
def spS (w h : Int) (zs : List Int) (p f : Int) (row col : List Int) (shift x y : Int) (n : Nat) : Int := sumN (fun j => col.getD j 0 * spM w h zs p f row shift x (y + (j : Int) - (col.length : Int) / 2)) n
def spP (w h : Int) (zs : List Int) (p f : Int) (row col : List Int) (shift shift2 out x y : Int) : Int := clV (shV (spS w h zs p f row col shift x y col.length) shift2) out
def spCode (mx : Int) (row col : List Int) (shift shift2 out : Int) : Int :=
 if ¬ (sideOk (row.length : Int) = true ∧ sideOk (col.length : Int) = true) then 9
 else if ¬ (wAll row = true ∧ wAll col = true ∧ shOk shift = true ∧ shOk shift2 = true) then 10
 else if ¬ (valOk mx = true ∧ valOk out = true) then 2
 else if bdOk row 0 mx = false then 11
 else if bdOk col (shV (bLo row 0 mx row.length) shift) (shV (bHi row 0 mx row.length) shift) = false then 11 else 0
def spTC (w h mx : Int) (zs : List Int) (p f : Int) (row col : List Int) (shift shift2 out r0 r1 r2 r3 : Int) : Int :=
 if ¬ (pValid w h mx zs = true ∧ bValid p f mx = true) then 1
 else if spCode mx row col shift shift2 out ≠ 0 then spCode mx row col shift shift2 out
 else if rIs r0 r1 r2 r3 w h = false then 8 else 0
def spL (w h : Int) (zs : List Int) (p f : Int) (row col : List Int) (shift shift2 out r0 r1 r2 r3 : Int) : List Int := rG (spP w h zs p f row col shift shift2 out) r0 r1 r2 r3

theorem wmul2 {z v : Int} (hz : -32767 ≤ z ∧ z ≤ 32767) (hv : 0 ≤ v ∧ v ≤ 4294967296) : -140733193388032 ≤ z * v ∧ z * v ≤ 140733193388032 := by
 have := mul_abs (z := z) (v := v) (c := 32767) (m := 4294967296) (by omega) (by omega)
 omega
theorem spR_bd {w h mx : Int} {zs : List Int} {p f : Int} (hv : pValid w h mx zs = true) (hb : bValid p f mx = true) {row : List Int} (hw : wAll row = true) (x y : Int) {n : Nat} (hn : n ≤ row.length) (h81 : row.length ≤ 9) :
  -1266598740492288 ≤ spR w h zs p f row x y n ∧ spR w h zs p f row x y n ≤ 1266598740492288 := by
 have hp := pOk_iff.1 (pValid_iff.1 hv).1; have := sumN_abs (f := fun i => row.getD i 0 * pPix w h zs p f (x + (i : Int) - (row.length : Int) / 2) y) (n := n) (c := 140733193388032) (fun i hi => wmul2 (wAll_iff.1 hw i (by omega)) (by have := pPix_bd hv hb (x + (i : Int) - (row.length : Int) / 2) y; omega))
 unfold spR
 omega
theorem spT_bd {z v : Int} (hz : -32767 ≤ z ∧ z ≤ 32767) (hv : -17592186044416 ≤ v ∧ v ≤ 17592186044416) : -576443160117379072 ≤ z * v ∧ z * v ≤ 576443160117379072 := by
 have := mul_abs (z := z) (v := v) (c := 32767) (m := 17592186044416) (by omega) (by omega)
 omega
theorem spS_bd (w h : Int) (zs : List Int) (p f : Int) (row : List Int) {col : List Int} (hw : wAll col = true) (shift x y : Int) {n : Nat} (hn : n ≤ col.length) (h9 : col.length ≤ 9) :
  -5187988441056411648 ≤ spS w h zs p f row col shift x y n ∧ spS w h zs p f row col shift x y n ≤ 5187988441056411648 := by
 have := sumN_abs (f := fun j => col.getD j 0 * spM w h zs p f row shift x (y + (j : Int) - (col.length : Int) / 2)) (n := n) (c := 576443160117379072) (fun i hi => spT_bd (wAll_iff.1 hw i (by omega)) (shV_bd _ _))
 unfold spS
 omega
theorem sp_len {mx shift shift2 out : Int} {row col : List Int} (h : spCode mx row col shift shift2 out = 0) : 1 ≤ row.length ∧ row.length ≤ 9 ∧ 1 ≤ col.length ∧ col.length ≤ 9 ∧ wAll row = true ∧ wAll col = true ∧ 0 ≤ shift ∧ shift ≤ 24 ∧ 0 ≤ shift2 ∧ shift2 ≤ 24 ∧ 1 ≤ out ∧ out ≤ 4294967296 ∧ bdOk row 0 mx = true ∧ bdOk col (shV (bLo row 0 mx row.length) shift) (shV (bHi row 0 mx row.length) shift) = true := by
 unfold spCode at h
 split at h
 ·
  omega
 rename_i h1
 split at h
 ·
  omega
 rename_i h2
 split at h
 ·
  omega
 rename_i h3
 split at h
 ·
  omega
 rename_i h4
 split at h
 ·
  omega
 rename_i h5; simp only [Decidable.not_not, sideOk, shOk, valOk, decide_eq_true_eq] at h1 h2 h3; exact ⟨by omega, by omega, by omega, by omega, h2.1, h2.2.1, h2.2.2.1.1, h2.2.2.1.2, h2.2.2.2.1, h2.2.2.2.2, h3.2.1, h3.2.2, by simpa using h4, by simpa using h5⟩
end Go.Proofs.YteejjnhlfgjlaaaGreat
