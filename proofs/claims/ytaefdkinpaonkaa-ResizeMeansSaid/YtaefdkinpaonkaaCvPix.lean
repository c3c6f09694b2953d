/-
  Contract: the pixels of planes in a convolution.
-/
import Derived.Test.YtaefdkinpaonkaaCvChk
namespace Go.Proofs.Ytaefdkinpaonkaa
open Go.RowKit
attribute [local go_sem ↓] Go.wp_at_zero Go.wp_at_succ
set_option linter.unusedVariables false
set_option linter.unusedSimpArgs false
end Go.Proofs.Ytaefdkinpaonkaa
