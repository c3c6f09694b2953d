/-
 Contract: which fields a stage may use, in the reference.
-/
import Derived.Test.YteejjnhlfgjlaaaStF
import Derived.Test.YteejjnhlfgjlaaaKH
namespace Go.Proofs.Yteejjnhlfgjlaaa
open Go.RowKit
attribute [local go_sem ↓] Go.wp_at_zero Go.wp_at_succ edge_eq edge_ne
set_option linter.unusedVariables false
set_option linter.unusedSimpArgs false
end Go.Proofs.Yteejjnhlfgjlaaa
