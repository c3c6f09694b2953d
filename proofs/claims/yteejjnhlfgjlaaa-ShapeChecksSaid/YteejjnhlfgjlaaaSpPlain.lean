/-
 Plain law: convolutions by rows and columns: the pixels, the sums, the errors.
-/
import Derived.Test.YteejjnhlfgjlaaaCvLaw
namespace Go.Proofs.Yteejjnhlfgjlaaa
open Go.RowKit
set_option linter.unusedVariables false

def spCode (mx : Int) (row col : List Int) (shift shift2 out : Int) : Int :=
 if ¬ (sideOk (row.length : Int) = true ∧ sideOk (col.length : Int) = true) then 9
 else if ¬ (wAll row = true ∧ wAll col = true ∧ shOk shift = true ∧ shOk shift2 = true) then 10
 else if ¬ (valOk mx = true ∧ valOk out = true) then 2
 else if bdOk row 0 mx = false then 11
 else if bdOk col (shV (bLo row 0 mx row.length) shift) (shV (bHi row 0 mx row.length) shift) = false then 11 else 0
end Go.Proofs.Yteejjnhlfgjlaaa
