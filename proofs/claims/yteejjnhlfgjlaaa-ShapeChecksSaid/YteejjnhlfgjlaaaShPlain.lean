/-
 Shapes of results: the plain law of the checks of a stage.
-/
import Derived.Test.YteejjnhlfgjlaaaKN
import Derived.Test.YteejjnhlfgjlaaaSpPlain
import Derived.Test.YteejjnhlfgjlaaaRzPlain
import Derived.Test.YteejjnhlfgjlaaaPwtPlain
import Derived.Test.YteejjnhlfgjlaaaKA
import Derived.Test.YteejjnhlfgjlaaaStF
namespace Go.Proofs.Yteejjnhlfgjlaaa
open Go.RowKit
set_option linter.unusedVariables false

def shTwo (kd sb : Int) : Bool := decide (kd = 6 ∧ ¬ sb = -1)
def shPn (ol : List (Int × Int)) (two : Bool) (aw ah am bw bh bm mx : Int) : Int :=
 if vCode ol two ≠ 0 then vCode ol two
 else if ¬ valOk mx = true then 2
 else if (ivR ol am (pwS two bm)).2.2 ≠ 0 then (ivR ol am (pwS two bm)).2.2
 else if two = true ∧ ¬ (aw = bw ∧ ah = bh) then 8 else 0
def shCk (kd sb kw kh : Int) (wl rl cl : List Int) (sh sh2 : Int) (X Y : Tbl) (bins : Int) (ol : List (Int × Int)) (mx aw ah am bw bh bm : Int) : Int :=
 if kd = 1 then cvCode am kw kh wl sh mx
 else if kd = 2 then spCode am rl cl sh sh2 mx
 else if kd = 3 then rzCode aw ah am X Y sh sh2 mx
 else if kd = 4 then (if 1 ≤ bins ∧ bins ≤ 128 then 0 else 9)
 else if kd = 5 then iCode aw ah am
 else shPn ol (shTwo kd sb) aw ah am bw bh bm mx
def shCode (sf : Bool) (kd sb ep ef kw kh : Int) (wl rl cl : List Int) (sh sh2 : Int) (X Y : Tbl) (bins : Int) (ol : List (Int × Int)) (mx aw ah am bw bh bm : Int) : Int :=
 if sf = false then 1
 else if pOk aw ah am = false ∨ (shTwo kd sb = true ∧ pOk bw bh bm = false) then 2
 else if kd ≤ 3 ∧ bValid ep ef am = false then 1
 else shCk kd sb kw kh wl rl cl sh sh2 X Y bins ol mx aw ah am bw bh bm
def shIf (c v : Int) : Int := if c = 0 then v else 0
def shW (kd : Int) (xn : Nat) (bins aw : Int) : Int := if kd = 3 then (xn : Int) else if kd = 4 then bins else aw
def shH (kd : Int) (yn : Nat) (ah : Int) : Int := if kd = 3 then (yn : Int) else if kd = 4 then 1 else ah
def shM (kd mx aw ah am : Int) : Int := if kd = 4 then aw * ah else if kd = 5 then am * aw * ah else mx
end Go.Proofs.Yteejjnhlfgjlaaa
