/-
 Contracts: the source coordinates of an output coordinate, in the program and in the reference. The needed coordinates: the plain law; arrays and slices of truth values as memory. A stage as an array of values behind a letter: its load out of a box, and the contracts of the functions that take a stage.
-/
import Derived.Test.YteejjnhlfgjlaaaStAcc
import Derived.Test.YteejjnhlfgjlaaaStAc2
import Derived.Laws.Rows
import Derived.Test.YteejjnhlfgjlaaaKH
namespace Go.Proofs.Yteejjnhlfgjlaaa
section
open Go.RowKit
attribute [local go_sem ↓] Go.wp_at_zero Go.wp_at_succ
set_option linter.unusedVariables false
set_option linter.unusedSimpArgs false
end

section
open Go.RowKit
set_option linter.unusedVariables false

section
variable {B : Nat} {W w w' : World} {l : List Ch} {rs : List Ro}
end
end

section
open Go.RowKit
set_option linter.unusedVariables false
end
end Go.Proofs.Yteejjnhlfgjlaaa
