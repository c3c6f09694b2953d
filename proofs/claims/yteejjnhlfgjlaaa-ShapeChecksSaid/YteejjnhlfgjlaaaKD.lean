/-
 Contract of the tape's SpoilPlane: some plane in new memory; the tape alone has changed. Contract: the copy of a plane.
-/
import Derived.Test.YteejjnhlfgjlaaaKC
import Derived.Test.YteejjnhlfgjlaaaKA
namespace Go.Proofs.Yteejjnhlfgjlaaa
section
open Go.RowKit
attribute [local go_sem ↓] Go.wp_at_zero Go.wp_at_succ
set_option linter.unusedVariables false
set_option linter.unusedSimpArgs false
end

section
open Go.RowKit
set_option linter.unusedVariables false
set_option linter.unusedSimpArgs false
end
end Go.Proofs.Yteejjnhlfgjlaaa
