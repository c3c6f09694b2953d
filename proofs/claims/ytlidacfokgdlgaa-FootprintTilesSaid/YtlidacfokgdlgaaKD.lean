/-
  Contract of the tape's SpoilPlane: some plane in new memory; the tape alone has changed. Contract: the copy of a plane.
-/
import Derived.Test.YtlidacfokgdlgaaKC
import Derived.Test.YtlidacfokgdlgaaKA
namespace Go.Proofs.Ytlidacfokgdlgaa
section
open Go.RowKit
attribute [local go_sem ↓] Go.wp_at_zero Go.wp_at_succ
set_option linter.unusedVariables false
set_option linter.unusedSimpArgs false

def SpoilPost (B0 k : Nat) (W : World) (e : Ending) (w' : World) : Prop :=
  ∃ w h mx v zs, e = .returned (.agg #[.int .i64 w, .int .i64 h, .int .i64 mx, v]) ∧ Own W.heap.size w' v zs ∧ TapeB B0 w' k ∧ W.grownBy w' (some k)
end

section
open Go.RowKit
set_option linter.unusedVariables false
set_option linter.unusedSimpArgs false

def CopyPost (w h mx : Int) (zs : List Int) (W : World) (e : Ending) (w' : World) : Prop :=
  ∃ v, e = .returned (.agg #[.int .i64 w, .int .i64 h, .int .i64 mx, v]) ∧ Own W.heap.size w' v zs ∧ Below W.heap.size W w'
end
end Go.Proofs.Ytlidacfokgdlgaa
