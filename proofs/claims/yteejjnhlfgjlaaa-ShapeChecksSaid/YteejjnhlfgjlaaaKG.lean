/-
 Contract: rectangles that the tape makes.
-/
import Derived.Test.YteejjnhlfgjlaaaKE
namespace Go.Proofs.Yteejjnhlfgjlaaa
open Go.RowKit
attribute [local go_sem ↓] Go.wp_at_zero Go.wp_at_succ
set_option linter.unusedVariables false
set_option linter.unusedSimpArgs false
end Go.Proofs.Yteejjnhlfgjlaaa
