/-
 Contract: the tape's SpoilStage: a stage with one property changed, and its memory.
-/
import Derived.Test.YteejjnhlfgjlaaaStage
import Derived.Test.YteejjnhlfgjlaaaApp2
import Derived.Test.YteejjnhlfgjlaaaKH
namespace Go.Proofs.Yteejjnhlfgjlaaa
open Go.RowKit
attribute [local go_sem ↓] Go.wp_at_zero Go.wp_at_succ
set_option linter.unusedVariables false
set_option linter.unusedSimpArgs false
end Go.Proofs.Yteejjnhlfgjlaaa
