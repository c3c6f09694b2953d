/-
 Plain law: tiles of programs for pixels: the error, the pixels. Contract: the tiles of programs for pixels, in the program.
-/
import Derived.Test.YteejjnhlfgjlaaaGreatKI
import Derived.Test.YteejjnhlfgjlaaaGreatKN
import Derived.Test.YteejjnhlfgjlaaaGreatPw10
import Derived.Test.YteejjnhlfgjlaaaGreatKX
namespace Go.Proofs.YteejjnhlfgjlaaaGreat
section
def pwS (two : Bool) (qmx : Int) : Int := if two = true then qmx else 1
def pwQ (two : Bool) (qs : List Int) (i : Nat) : Int := if two = true then qs.getD i 0 else 0
def pwTC (w h mx : Int) (zs : List Int) (qw qh qmx : Int) (qs : List Int) (two : Bool) (l : List (Int × Int)) (out r0 r1 r2 r3 : Int) : Int :=
 if ¬ (pValid w h mx zs = true ∧ (two = true → pValid qw qh qmx qs = true)) then 1
 else if vCode l two ≠ 0 then vCode l two
 else if ¬ valOk out = true then 2
 else if (ivR l mx (pwS two qmx)).2.2 ≠ 0 then (ivR l mx (pwS two qmx)).2.2
 else if (two = true ∧ ¬ (w = qw ∧ h = qh)) ∨ ¬ rIs r0 r1 r2 r3 w h = true then 8 else 0
def pwP (w : Int) (zs : List Int) (two : Bool) (qs : List Int) (l : List (Int × Int)) (out x y : Int) : Int := clV (eGo l [] (zs.getD (y * w + x).toNat 0) (pwQ two qs (y * w + x).toNat)).1 out
def pwL (w : Int) (zs : List Int) (two : Bool) (qs : List Int) (l : List (Int × Int)) (out r0 r1 r2 r3 : Int) : List Int := rG (pwP w zs two qs l out) r0 r1 r2 r3
theorem pix_ok {w h mx : Int} {zs : List Int} (hv : pValid w h mx zs = true) {i : Nat} (hi : i < zs.length) : pixOk (zs.getD i 0) = true := by
 have h1 := (pValid_iff.1 hv).2.2 _ (getD_mem' hi); have h2 := pOk_iff.1 (pValid_iff.1 hv).1; rw [pixOk_iff]
 omega
end

section
open Go.RowKit
attribute [local go_sem ↓] Go.wp_at_zero Go.wp_at_succ
set_option linter.unusedVariables false
set_option linter.unusedSimpArgs false
end
end Go.Proofs.YteejjnhlfgjlaaaGreat
