/-
 Resizing with tables: the plain law of the checks and of the pixels.
-/
import Derived.Test.YteejjnhlfgjlaaaGreatSpPlain
import Derived.Test.YteejjnhlfgjlaaaGreatKI
namespace Go.Proofs.YteejjnhlfgjlaaaGreat
set_option linter.unusedVariables false

def rzLo (mx s : Int) (p : Int × List Int) : Int := shV (bLo p.2 0 mx p.2.length) s
def rzHi (mx s : Int) (p : Int × List Int) : Int := shV (bHi p.2 0 mx p.2.length) s
def acLo (mx s : Int) (x : Tbl) : Nat → Int
 | 0 => 0
 | j + 1 => if j = 0 then rzLo mx s (x.getD 0 (0, [])) else if acLo mx s x j ≤ rzLo mx s (x.getD j (0, [])) then acLo mx s x j else rzLo mx s (x.getD j (0, []))
def acHi (mx s : Int) (x : Tbl) : Nat → Int
 | 0 => 0
 | j + 1 => if j = 0 then rzHi mx s (x.getD 0 (0, [])) else if rzHi mx s (x.getD j (0, [])) ≤ acHi mx s x j then acHi mx s x j else rzHi mx s (x.getD j (0, []))
def acOk (lo hi : Int) (x : Tbl) : Nat → Bool
 | 0 => true
 | j + 1 => acOk lo hi x j && bdOk (x.getD j (0, [])).2 lo hi
def acCode (mx s : Int) (x y : Tbl) : Int :=
 if acOk 0 mx x x.length = false then 11 else if acOk (acLo mx s x x.length) (acHi mx s x x.length) y y.length = false then 11 else 0
def rzCode (W H mx : Int) (x y : Tbl) (s s2 out : Int) : Int :=
 if tvCode x W ≠ 0 then tvCode x W
 else if tvCode y H ≠ 0 then tvCode y H
 else if 4096 < (x.length : Int) * (y.length : Int) then 8
 else if ¬ (shOk s = true ∧ shOk s2 = true) then 10
 else if ¬ (valOk mx = true ∧ valOk out = true) then 2
 else acCode mx s x y
def rzM (w h : Int) (zs : List Int) (p f : Int) (t : Int × List Int) (s k : Int) : Int := shV (sumN (fun i => t.2.getD i 0 * pPix w h zs p f (t.1 + (i : Int)) k) t.2.length) s
def rzS (w h : Int) (zs : List Int) (p f : Int) (tx ty : Int × List Int) (s : Int) (n : Nat) : Int := sumN (fun j => ty.2.getD j 0 * rzM w h zs p f tx s (ty.1 + (j : Int))) n
def rzP (w h : Int) (zs : List Int) (p f : Int) (x y : Tbl) (s s2 out u v : Int) : Int := clV (shV (rzS w h zs p f (x.getD u.toNat (0, [])) (y.getD v.toNat (0, [])) s (y.getD v.toNat (0, [])).2.length) s2) out
def rzTC (w h mx : Int) (zs : List Int) (p f : Int) (x y : Tbl) (s s2 out r0 r1 r2 r3 : Int) : Int :=
 if ¬ (pValid w h mx zs = true ∧ bValid p f mx = true) then 1
 else if rzCode w h mx x y s s2 out ≠ 0 then rzCode w h mx x y s s2 out
 else if rIs r0 r1 r2 r3 (x.length : Int) (y.length : Int) = false then 8 else 0
def rzL (w h : Int) (zs : List Int) (p f : Int) (x y : Tbl) (s s2 out r0 r1 r2 r3 : Int) : List Int := rG (rzP w h zs p f x y s s2 out) r0 r1 r2 r3
theorem acOk_next {lo hi : Int} {x : Tbl} {j : Nat} (h : acOk lo hi x j = true) (hb : bdOk (x.getD j (0, [])).2 lo hi = true) : acOk lo hi x (j + 1) = true := by simp only [acOk]; rw [h, hb]; rfl
theorem acOk_bad {lo hi : Int} {x : Tbl} {j : Nat} (hb : bdOk (x.getD j (0, [])).2 lo hi = false) : ∀ d, acOk lo hi x (j + 1 + d) = false
 | 0 => by simp only [acOk]; rw [hb, Bool.and_false]
 | d + 1 => by
  show acOk lo hi x ((j + 1 + d) + 1) = false
  simp only [acOk]; rw [acOk_bad hb d, Bool.false_and]
theorem acOk_fail {lo hi : Int} {x : Tbl} {j : Nat} (hj : j < x.length) (hb : bdOk (x.getD j (0, [])).2 lo hi = false) : acOk lo hi x x.length = false := by
 have := acOk_bad hb (x.length - (j + 1))
 rwa [show j + 1 + (x.length - (j + 1)) = x.length by omega] at this
end Go.Proofs.YteejjnhlfgjlaaaGreat
