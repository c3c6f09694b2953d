/-
  No cell of these rows narrows 'for every input' (looked for: loops, veiled, ifaces, maps, wideKeys, modest, calm, conditions, laid).
  DERIVED. THE GIVEN ROWS OF THIS SEAT. 5 by the template 'for every input the law returns true; each argument reads behind the call as it read before'; 0 by the template 'total and deterministic' (their statements: YtocikgdkigcjbaaTotals.lean).
  GIVEN WITH THE SEED: the statements are not yours to turn. If you find one false, say at which input.
  Laid BY PROGRAM, IN A SANDBOX (cutbox-rows.mjs): the forced cells as the released guide's own fill.sh prints them over the translation b20ece88312b34f2… (all of the seat's roots in one cut). By AI agents, Wed Nov 11 2026. No macro, syntax, notation, axiom, sorry.
-/
import Derived.Test.YtocikgdkigcjbaaChecked
import GoSem.Claim
import GoSem.ClaimJoined
import GoSem.ClaimMapViews
import Derived.JoinedTies
import Derived.KernelRfl
namespace Go.Proofs.Ytocikgdkigcjbaa
/- THE CELL 'sum', in the pinned program and in every row, IS THE sha256 OF THE DUMP (.gsa) THAT YtocikgdkigcjbaaProg.lean LOADS. Nothing in Lean hashes anything: it is a label: what it is worth is what the hold of that sum in a sandbox is worth. -/
noncomputable def Try.pinned : Pinned := { name := "ytocikgdkigcjbaa", sum := "b20ece88312b34f2107774decfa4e0c28bdce15e2c191fc086cf7447413261a1", checked := Try.checked }
namespace Rows
def none {H : Type} : Left H := { results := [], args := [] }

/-- 'tilefarmlaw9.ConvolveChecks': WHATEVER THE INPUT: true; the input reads as it did. -/
def convolveChecksSpec : ChangeSpec := { name := "convolveChecks", fn := fun _ => fun
  | [d1, d2, d3, d4, d5, d6, d7] => { results := [.lit (.bool true)], args := [d1, d2, d3, d4, d5, d6, d7] }
  | _ => none }
def convolveChecksRow : OpenClaim := { program := "ytocikgdkigcjbaa", sum := "b20ece88312b34f2107774decfa4e0c28bdce15e2c191fc086cf7447413261a1", func := "tilefarm/tilefarmlaw9.ConvolveChecks", spec := "convolveChecks", apart := false }
def ConvolveChecksSaid : Prop := convolveChecksRow.holds Try.pinned (OpenSpec.ofChange convolveChecksSpec)

/-- ITS FALSE NEIGHBOUR: 'it returns false'. Refute it at one input. -/
def convolveChecksWrong : ChangeSpec := { name := "convolveChecks", fn := fun _ => fun
  | [d1, d2, d3, d4, d5, d6, d7] => { results := [.lit (.bool false)], args := [d1, d2, d3, d4, d5, d6, d7] }
  | _ => none }
def ConvolveChecksWrongFalsely : Prop := convolveChecksRow.holds Try.pinned (OpenSpec.ofChange convolveChecksWrong)

/-- 'tilefarmlaw9.ConvolveTiles': WHATEVER THE INPUT: true; the input reads as it did. -/
def convolveTilesSpec : ChangeSpec := { name := "convolveTiles", fn := fun _ => fun
  | [d1, d2] => { results := [.lit (.bool true)], args := [d1, d2] }
  | _ => none }
def convolveTilesRow : OpenClaim := { program := "ytocikgdkigcjbaa", sum := "b20ece88312b34f2107774decfa4e0c28bdce15e2c191fc086cf7447413261a1", func := "tilefarm/tilefarmlaw9.ConvolveTiles", spec := "convolveTiles", apart := false }
def ConvolveTilesSaid : Prop := convolveTilesRow.holds Try.pinned (OpenSpec.ofChange convolveTilesSpec)

/-- ITS FALSE NEIGHBOUR: 'it returns false'. Refute it at one input. -/
def convolveTilesWrong : ChangeSpec := { name := "convolveTiles", fn := fun _ => fun
  | [d1, d2] => { results := [.lit (.bool false)], args := [d1, d2] }
  | _ => none }
def ConvolveTilesWrongFalsely : Prop := convolveTilesRow.holds Try.pinned (OpenSpec.ofChange convolveTilesWrong)

/-- 'tilefarmlaw9.ConvolveCrops': WHATEVER THE INPUT: true; the input reads as it did. -/
def convolveCropsSpec : ChangeSpec := { name := "convolveCrops", fn := fun _ => fun
  | [d] => { results := [.lit (.bool true)], args := [d] }
  | _ => none }
def convolveCropsRow : OpenClaim := { program := "ytocikgdkigcjbaa", sum := "b20ece88312b34f2107774decfa4e0c28bdce15e2c191fc086cf7447413261a1", func := "tilefarm/tilefarmlaw9.ConvolveCrops", spec := "convolveCrops", apart := false }
def ConvolveCropsSaid : Prop := convolveCropsRow.holds Try.pinned (OpenSpec.ofChange convolveCropsSpec)

/-- ITS FALSE NEIGHBOUR: 'it returns false'. Refute it at one input. -/
def convolveCropsWrong : ChangeSpec := { name := "convolveCrops", fn := fun _ => fun
  | [d] => { results := [.lit (.bool false)], args := [d] }
  | _ => none }
def ConvolveCropsWrongFalsely : Prop := convolveCropsRow.holds Try.pinned (OpenSpec.ofChange convolveCropsWrong)

/-- 'tilefarmlaw9.ConvolveLinear': WHATEVER THE INPUT: true; the input reads as it did. -/
def convolveLinearSpec : ChangeSpec := { name := "convolveLinear", fn := fun _ => fun
  | [d] => { results := [.lit (.bool true)], args := [d] }
  | _ => none }
def convolveLinearRow : OpenClaim := { program := "ytocikgdkigcjbaa", sum := "b20ece88312b34f2107774decfa4e0c28bdce15e2c191fc086cf7447413261a1", func := "tilefarm/tilefarmlaw9.ConvolveLinear", spec := "convolveLinear", apart := false }
def ConvolveLinearSaid : Prop := convolveLinearRow.holds Try.pinned (OpenSpec.ofChange convolveLinearSpec)

/-- ITS FALSE NEIGHBOUR: 'it returns false'. Refute it at one input. -/
def convolveLinearWrong : ChangeSpec := { name := "convolveLinear", fn := fun _ => fun
  | [d] => { results := [.lit (.bool false)], args := [d] }
  | _ => none }
def ConvolveLinearWrongFalsely : Prop := convolveLinearRow.holds Try.pinned (OpenSpec.ofChange convolveLinearWrong)

/-- 'tilefarmlaw9.ConvolveMoves': WHATEVER THE INPUT: true; the input reads as it did. -/
def convolveMovesSpec : ChangeSpec := { name := "convolveMoves", fn := fun _ => fun
  | [d1, d2] => { results := [.lit (.bool true)], args := [d1, d2] }
  | _ => none }
def convolveMovesRow : OpenClaim := { program := "ytocikgdkigcjbaa", sum := "b20ece88312b34f2107774decfa4e0c28bdce15e2c191fc086cf7447413261a1", func := "tilefarm/tilefarmlaw9.ConvolveMoves", spec := "convolveMoves", apart := false }
def ConvolveMovesSaid : Prop := convolveMovesRow.holds Try.pinned (OpenSpec.ofChange convolveMovesSpec)

/-- ITS FALSE NEIGHBOUR: 'it returns false'. Refute it at one input. -/
def convolveMovesWrong : ChangeSpec := { name := "convolveMoves", fn := fun _ => fun
  | [d1, d2] => { results := [.lit (.bool false)], args := [d1, d2] }
  | _ => none }
def ConvolveMovesWrongFalsely : Prop := convolveMovesRow.holds Try.pinned (OpenSpec.ofChange convolveMovesWrong)

/- THE SECOND FORM. 'bulk': how many values and letters a reading holds, each counted each time it is reached (what is shared counts as often as it is met; a slice's spare places count too). A statement '..UptoSaid' is the law's where the arguments, and the package variables that the reading takes, are together of bulk at most 1048576: NARROWER than '..Said'. Prove '..Said' where nothing that the law and all that it calls make is longer than what came in: it says more and counts as full. Else prove '..UptoSaid'. A law counts once. -/
mutual
def uptoBulk {H : Type} : DataW H → Nat
  | .lit (.string bytes) => bytes.length + 1
  | .lit _ => 1
  | .nil => 1
  | .ptr d => uptoBulk d + 1
  | .slice elems spare => uptoBulkAll elems + uptoBulkAll spare + 1
  | .agg parts => uptoBulkAll parts + 1
  | .iface _ d => uptoBulk d + 1
  | .map entries => uptoBulkEntries entries + 1
  | .held _ => 1
def uptoBulkAll {H : Type} : List (DataW H) → Nat
  | [] => 0
  | d :: r => uptoBulk d + uptoBulkAll r
def uptoBulkEntries {H : Type} : List (Lit × DataW H) → Nat
  | [] => 0
  | x :: r => uptoBulkEntry x + uptoBulkEntries r
def uptoBulkEntry {H : Type} : Lit × DataW H → Nat
  | (.string bytes, d) => bytes.length + uptoBulk d + 1
  | (_, d) => uptoBulk d + 1
 end
def uptoSmall : (H : Type) → List (DataW H) → Bool := fun _ ds => decide (uptoBulkAll ds ≤ 1048576)
def OpenSpec.upto (s : _root_.Go.ChangeSpec) : _root_.Go.OpenSpec := { _root_.Go.OpenSpec.ofChange s with cond := some uptoSmall }

/-- 'tilefarmlaw9.ConvolveChecks', WHERE WHAT IT READS IS OF BULK AT MOST 1048576: true; the input reads as it did. -/
def convolveChecksUptoRow : OpenClaim := { program := "ytocikgdkigcjbaa", sum := "b20ece88312b34f2107774decfa4e0c28bdce15e2c191fc086cf7447413261a1", func := "tilefarm/tilefarmlaw9.ConvolveChecks", spec := "convolveChecks", apart := false, narrowed := true }
def ConvolveChecksUptoSaid : Prop := convolveChecksUptoRow.holds Try.pinned (OpenSpec.upto convolveChecksSpec)

/-- 'tilefarmlaw9.ConvolveTiles', WHERE WHAT IT READS IS OF BULK AT MOST 1048576: true; the input reads as it did. -/
def convolveTilesUptoRow : OpenClaim := { program := "ytocikgdkigcjbaa", sum := "b20ece88312b34f2107774decfa4e0c28bdce15e2c191fc086cf7447413261a1", func := "tilefarm/tilefarmlaw9.ConvolveTiles", spec := "convolveTiles", apart := false, narrowed := true }
def ConvolveTilesUptoSaid : Prop := convolveTilesUptoRow.holds Try.pinned (OpenSpec.upto convolveTilesSpec)

/-- 'tilefarmlaw9.ConvolveCrops', WHERE WHAT IT READS IS OF BULK AT MOST 1048576: true; the input reads as it did. -/
def convolveCropsUptoRow : OpenClaim := { program := "ytocikgdkigcjbaa", sum := "b20ece88312b34f2107774decfa4e0c28bdce15e2c191fc086cf7447413261a1", func := "tilefarm/tilefarmlaw9.ConvolveCrops", spec := "convolveCrops", apart := false, narrowed := true }
def ConvolveCropsUptoSaid : Prop := convolveCropsUptoRow.holds Try.pinned (OpenSpec.upto convolveCropsSpec)

/-- 'tilefarmlaw9.ConvolveLinear', WHERE WHAT IT READS IS OF BULK AT MOST 1048576: true; the input reads as it did. -/
def convolveLinearUptoRow : OpenClaim := { program := "ytocikgdkigcjbaa", sum := "b20ece88312b34f2107774decfa4e0c28bdce15e2c191fc086cf7447413261a1", func := "tilefarm/tilefarmlaw9.ConvolveLinear", spec := "convolveLinear", apart := false, narrowed := true }
def ConvolveLinearUptoSaid : Prop := convolveLinearUptoRow.holds Try.pinned (OpenSpec.upto convolveLinearSpec)

/-- 'tilefarmlaw9.ConvolveMoves', WHERE WHAT IT READS IS OF BULK AT MOST 1048576: true; the input reads as it did. -/
def convolveMovesUptoRow : OpenClaim := { program := "ytocikgdkigcjbaa", sum := "b20ece88312b34f2107774decfa4e0c28bdce15e2c191fc086cf7447413261a1", func := "tilefarm/tilefarmlaw9.ConvolveMoves", spec := "convolveMoves", apart := false, narrowed := true }
def ConvolveMovesUptoSaid : Prop := convolveMovesUptoRow.holds Try.pinned (OpenSpec.upto convolveMovesSpec)

end Rows
end Go.Proofs.Ytocikgdkigcjbaa
