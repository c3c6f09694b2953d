/-
 Contracts: which stages have needs, and the source coordinates of an output coordinate, in the program and in the reference. Contracts: which stages have needs, in the reference. Contracts: the source coordinates of an output coordinate, in the program and in the reference. The needed coordinates: the plain law; arrays and slices of truth values as memory. A stage as an array of values behind a letter: its load out of a box, and the contracts of the functions that take a stage.
-/
import Derived.Test.YteejjnhlfgjlaaaGreatStF1
import Derived.Test.YteejjnhlfgjlaaaGreatStF2
import Derived.Test.YteejjnhlfgjlaaaGreatKJ
import Derived.Test.YteejjnhlfgjlaaaGreatKN
import Derived.Test.YteejjnhlfgjlaaaGreatKH
import Derived.Laws.Rows
namespace Go.Proofs.YteejjnhlfgjlaaaGreat
section
open Go.RowKit
attribute [local go_sem ↓] Go.wp_at_zero Go.wp_at_succ
set_option linter.unusedVariables false
set_option linter.unusedSimpArgs false

theorem sfields_A {kd sa sb : Int} {bar : Bool} {ep ef kw kh : Int} {wa : Option Addr} {wn wc : Nat} {ra : Option Addr} {rn rc : Nat} {ca : Option Addr} {cn cc : Nat} {sh sh2 : Int} {xa : Option Addr} {xn xc : Nat} {ya : Option Addr} {yn yc : Nat} {bins : Int} {oa : Option Addr} {on oc : Nat} {mx : Int} {A : Array Value} (hA : A = #[.int .i64 kd, .int .i64 sa, .int .i64 sb, .bool bar, .int .i64 ep, .int .i64 ef, .int .i64 kw, .int .i64 kh, .slice wa wn wc, .slice ra rn rc, .slice ca cn cc, .int .i64 sh, .int .i64 sh2, .slice xa xn xc, .slice ya yn yc, .int .i64 bins, .slice oa on oc, .int .i64 mx]) (W : World) : Calls Tryz.prog 22 #[.agg A] W fun e w' => e = .returned (.bool (sfOk kd sb ep ef kw kh wn rn cn sh sh2 xn yn bins on mx)) ∧ Below W.heap.size W w' := by
 subst hA; exact sfields_any _ _ _ _ _ _ _ _ _ _ _ _ _ _ _ _ _ _ _ _ _ _ _ _ _ _ _ _ _ _ W
end

section
open Go.RowKit
attribute [local go_sem ↓] Go.wp_at_zero Go.wp_at_succ
set_option linter.unusedVariables false
set_option linter.unusedSimpArgs false

theorem rsfields_A {kd sa sb : Int} {bar : Bool} {ep ef kw kh : Int} {wa : Option Addr} {wn wc : Nat} {ra : Option Addr} {rn rc : Nat} {ca : Option Addr} {cn cc : Nat} {sh sh2 : Int} {xa : Option Addr} {xn xc : Nat} {ya : Option Addr} {yn yc : Nat} {bins : Int} {oa : Option Addr} {on oc : Nat} {mx : Int} {A : Array Value} (hA : A = #[.int .i64 kd, .int .i64 sa, .int .i64 sb, .bool bar, .int .i64 ep, .int .i64 ef, .int .i64 kw, .int .i64 kh, .slice wa wn wc, .slice ra rn rc, .slice ca cn cc, .int .i64 sh, .int .i64 sh2, .slice xa xn xc, .slice ya yn yc, .int .i64 bins, .slice oa on oc, .int .i64 mx]) (W : World) : Calls Tryz.prog 44 #[.agg A] W fun e w' => e = .returned (.bool (sfOk kd sb ep ef kw kh wn rn cn sh sh2 xn yn bins on mx)) ∧ Below W.heap.size W w' := by
 subst hA; exact rsfields_any _ _ _ _ _ _ _ _ _ _ _ _ _ _ _ _ _ _ _ _ _ _ _ _ _ _ _ _ _ _ W
end

section
open Go.RowKit
attribute [local go_sem ↓] Go.wp_at_zero Go.wp_at_succ
set_option linter.unusedVariables false
set_option linter.unusedSimpArgs false
end

section
open Go.RowKit
set_option linter.unusedVariables false

section
variable {B : Nat} {W w w' : World} {l : List Ch} {rs : List Ro}
end
end

section
open Go.RowKit
set_option linter.unusedVariables false
end
end Go.Proofs.YteejjnhlfgjlaaaGreat
