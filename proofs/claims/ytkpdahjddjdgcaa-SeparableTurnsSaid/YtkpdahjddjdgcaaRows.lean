/-
  No cell of these rows narrows 'for every input' (looked for: loops, veiled, ifaces, maps, wideKeys, modest, calm, conditions, laid).
  DERIVED. THE GIVEN ROWS OF THIS SEAT. 14 by the template 'for every input the law returns true; each argument reads behind the call as it read before'; 0 by the template 'total and deterministic' (their statements: YtkpdahjddjdgcaaTotals.lean).
  GIVEN WITH THE SEED: the statements are not yours to turn. If you find one false, say at which input.
  Laid BY PROGRAM, IN A SANDBOX (cutbox-rows.mjs): the forced cells as the released guide's own fill.sh prints them over the translation 729d17fb1aef7948… (all of the seat's roots in one cut). By AI agents, Wed Nov 11 2026. No macro, syntax, notation, axiom, sorry.
-/
import Derived.Test.YtkpdahjddjdgcaaChecked
import GoSem.Claim
import GoSem.ClaimJoined
import GoSem.ClaimMapViews
import Derived.JoinedTies
import Derived.KernelRfl
namespace Go.Proofs.Ytkpdahjddjdgcaa
/- THE CELL 'sum', in the pinned program and in every row, IS THE sha256 OF THE DUMP (.gsa) THAT YtkpdahjddjdgcaaProg.lean LOADS. Nothing in Lean hashes anything: it is a label: what it is worth is what the hold of that sum in a sandbox is worth. -/
noncomputable def Try.pinned : Pinned := { name := "ytkpdahjddjdgcaa", sum := "729d17fb1aef79484dde801479c6e6dcd35b76999344320d8235ea552ed33821", checked := Try.checked }
namespace Rows
def none {H : Type} : Left H := { results := [], args := [] }

/-- 'tilefarmlaw9.ConvolveChecks': WHATEVER THE INPUT: true; the input reads as it did. -/
def convolveChecksSpec : ChangeSpec := { name := "convolveChecks", fn := fun _ => fun
  | [d1, d2, d3, d4, d5, d6, d7] => { results := [.lit (.bool true)], args := [d1, d2, d3, d4, d5, d6, d7] }
  | _ => none }
def convolveChecksRow : OpenClaim := { program := "ytkpdahjddjdgcaa", sum := "729d17fb1aef79484dde801479c6e6dcd35b76999344320d8235ea552ed33821", func := "tilefarm/tilefarmlaw9.ConvolveChecks", spec := "convolveChecks", apart := false }
def ConvolveChecksSaid : Prop := convolveChecksRow.holds Try.pinned (OpenSpec.ofChange convolveChecksSpec)

/-- ITS FALSE NEIGHBOUR: 'it returns false'. Refute it at one input. -/
def convolveChecksWrong : ChangeSpec := { name := "convolveChecks", fn := fun _ => fun
  | [d1, d2, d3, d4, d5, d6, d7] => { results := [.lit (.bool false)], args := [d1, d2, d3, d4, d5, d6, d7] }
  | _ => none }
def ConvolveChecksWrongFalsely : Prop := convolveChecksRow.holds Try.pinned (OpenSpec.ofChange convolveChecksWrong)

/-- 'tilefarmlaw9.ConvolveTiles': WHATEVER THE INPUT: true; the input reads as it did. -/
def convolveTilesSpec : ChangeSpec := { name := "convolveTiles", fn := fun _ => fun
  | [d1, d2] => { results := [.lit (.bool true)], args := [d1, d2] }
  | _ => none }
def convolveTilesRow : OpenClaim := { program := "ytkpdahjddjdgcaa", sum := "729d17fb1aef79484dde801479c6e6dcd35b76999344320d8235ea552ed33821", func := "tilefarm/tilefarmlaw9.ConvolveTiles", spec := "convolveTiles", apart := false }
def ConvolveTilesSaid : Prop := convolveTilesRow.holds Try.pinned (OpenSpec.ofChange convolveTilesSpec)

/-- ITS FALSE NEIGHBOUR: 'it returns false'. Refute it at one input. -/
def convolveTilesWrong : ChangeSpec := { name := "convolveTiles", fn := fun _ => fun
  | [d1, d2] => { results := [.lit (.bool false)], args := [d1, d2] }
  | _ => none }
def ConvolveTilesWrongFalsely : Prop := convolveTilesRow.holds Try.pinned (OpenSpec.ofChange convolveTilesWrong)

/-- 'tilefarmlaw9.ConvolveCrops': WHATEVER THE INPUT: true; the input reads as it did. -/
def convolveCropsSpec : ChangeSpec := { name := "convolveCrops", fn := fun _ => fun
  | [d] => { results := [.lit (.bool true)], args := [d] }
  | _ => none }
def convolveCropsRow : OpenClaim := { program := "ytkpdahjddjdgcaa", sum := "729d17fb1aef79484dde801479c6e6dcd35b76999344320d8235ea552ed33821", func := "tilefarm/tilefarmlaw9.ConvolveCrops", spec := "convolveCrops", apart := false }
def ConvolveCropsSaid : Prop := convolveCropsRow.holds Try.pinned (OpenSpec.ofChange convolveCropsSpec)

/-- ITS FALSE NEIGHBOUR: 'it returns false'. Refute it at one input. -/
def convolveCropsWrong : ChangeSpec := { name := "convolveCrops", fn := fun _ => fun
  | [d] => { results := [.lit (.bool false)], args := [d] }
  | _ => none }
def ConvolveCropsWrongFalsely : Prop := convolveCropsRow.holds Try.pinned (OpenSpec.ofChange convolveCropsWrong)

/-- 'tilefarmlaw9.ConvolveLinear': WHATEVER THE INPUT: true; the input reads as it did. -/
def convolveLinearSpec : ChangeSpec := { name := "convolveLinear", fn := fun _ => fun
  | [d] => { results := [.lit (.bool true)], args := [d] }
  | _ => none }
def convolveLinearRow : OpenClaim := { program := "ytkpdahjddjdgcaa", sum := "729d17fb1aef79484dde801479c6e6dcd35b76999344320d8235ea552ed33821", func := "tilefarm/tilefarmlaw9.ConvolveLinear", spec := "convolveLinear", apart := false }
def ConvolveLinearSaid : Prop := convolveLinearRow.holds Try.pinned (OpenSpec.ofChange convolveLinearSpec)

/-- ITS FALSE NEIGHBOUR: 'it returns false'. Refute it at one input. -/
def convolveLinearWrong : ChangeSpec := { name := "convolveLinear", fn := fun _ => fun
  | [d] => { results := [.lit (.bool false)], args := [d] }
  | _ => none }
def ConvolveLinearWrongFalsely : Prop := convolveLinearRow.holds Try.pinned (OpenSpec.ofChange convolveLinearWrong)

/-- 'tilefarmlaw9.ConvolveMoves': WHATEVER THE INPUT: true; the input reads as it did. -/
def convolveMovesSpec : ChangeSpec := { name := "convolveMoves", fn := fun _ => fun
  | [d1, d2] => { results := [.lit (.bool true)], args := [d1, d2] }
  | _ => none }
def convolveMovesRow : OpenClaim := { program := "ytkpdahjddjdgcaa", sum := "729d17fb1aef79484dde801479c6e6dcd35b76999344320d8235ea552ed33821", func := "tilefarm/tilefarmlaw9.ConvolveMoves", spec := "convolveMoves", apart := false }
def ConvolveMovesSaid : Prop := convolveMovesRow.holds Try.pinned (OpenSpec.ofChange convolveMovesSpec)

/-- ITS FALSE NEIGHBOUR: 'it returns false'. Refute it at one input. -/
def convolveMovesWrong : ChangeSpec := { name := "convolveMoves", fn := fun _ => fun
  | [d1, d2] => { results := [.lit (.bool false)], args := [d1, d2] }
  | _ => none }
def ConvolveMovesWrongFalsely : Prop := convolveMovesRow.holds Try.pinned (OpenSpec.ofChange convolveMovesWrong)

/-- 'tilefarmlaw10.SeparableChecks': WHATEVER THE INPUT: true; the input reads as it did. -/
def separableChecksSpec : ChangeSpec := { name := "separableChecks", fn := fun _ => fun
  | [d1, d2, d3, d4, d5, d6, d7] => { results := [.lit (.bool true)], args := [d1, d2, d3, d4, d5, d6, d7] }
  | _ => none }
def separableChecksRow : OpenClaim := { program := "ytkpdahjddjdgcaa", sum := "729d17fb1aef79484dde801479c6e6dcd35b76999344320d8235ea552ed33821", func := "tilefarm/tilefarmlaw10.SeparableChecks", spec := "separableChecks", apart := false }
def SeparableChecksSaid : Prop := separableChecksRow.holds Try.pinned (OpenSpec.ofChange separableChecksSpec)

/-- ITS FALSE NEIGHBOUR: 'it returns false'. Refute it at one input. -/
def separableChecksWrong : ChangeSpec := { name := "separableChecks", fn := fun _ => fun
  | [d1, d2, d3, d4, d5, d6, d7] => { results := [.lit (.bool false)], args := [d1, d2, d3, d4, d5, d6, d7] }
  | _ => none }
def SeparableChecksWrongFalsely : Prop := separableChecksRow.holds Try.pinned (OpenSpec.ofChange separableChecksWrong)

/-- 'tilefarmlaw10.SeparableTiles': WHATEVER THE INPUT: true; the input reads as it did. -/
def separableTilesSpec : ChangeSpec := { name := "separableTiles", fn := fun _ => fun
  | [d1, d2] => { results := [.lit (.bool true)], args := [d1, d2] }
  | _ => none }
def separableTilesRow : OpenClaim := { program := "ytkpdahjddjdgcaa", sum := "729d17fb1aef79484dde801479c6e6dcd35b76999344320d8235ea552ed33821", func := "tilefarm/tilefarmlaw10.SeparableTiles", spec := "separableTiles", apart := false }
def SeparableTilesSaid : Prop := separableTilesRow.holds Try.pinned (OpenSpec.ofChange separableTilesSpec)

/-- ITS FALSE NEIGHBOUR: 'it returns false'. Refute it at one input. -/
def separableTilesWrong : ChangeSpec := { name := "separableTiles", fn := fun _ => fun
  | [d1, d2] => { results := [.lit (.bool false)], args := [d1, d2] }
  | _ => none }
def SeparableTilesWrongFalsely : Prop := separableTilesRow.holds Try.pinned (OpenSpec.ofChange separableTilesWrong)

/-- 'tilefarmlaw10.SeparableCrops': WHATEVER THE INPUT: true; the input reads as it did. -/
def separableCropsSpec : ChangeSpec := { name := "separableCrops", fn := fun _ => fun
  | [d] => { results := [.lit (.bool true)], args := [d] }
  | _ => none }
def separableCropsRow : OpenClaim := { program := "ytkpdahjddjdgcaa", sum := "729d17fb1aef79484dde801479c6e6dcd35b76999344320d8235ea552ed33821", func := "tilefarm/tilefarmlaw10.SeparableCrops", spec := "separableCrops", apart := false }
def SeparableCropsSaid : Prop := separableCropsRow.holds Try.pinned (OpenSpec.ofChange separableCropsSpec)

/-- ITS FALSE NEIGHBOUR: 'it returns false'. Refute it at one input. -/
def separableCropsWrong : ChangeSpec := { name := "separableCrops", fn := fun _ => fun
  | [d] => { results := [.lit (.bool false)], args := [d] }
  | _ => none }
def SeparableCropsWrongFalsely : Prop := separableCropsRow.holds Try.pinned (OpenSpec.ofChange separableCropsWrong)

/-- 'tilefarmlaw10.SeparableTurns': WHATEVER THE INPUT: true; the input reads as it did. -/
def separableTurnsSpec : ChangeSpec := { name := "separableTurns", fn := fun _ => fun
  | [d] => { results := [.lit (.bool true)], args := [d] }
  | _ => none }
def separableTurnsRow : OpenClaim := { program := "ytkpdahjddjdgcaa", sum := "729d17fb1aef79484dde801479c6e6dcd35b76999344320d8235ea552ed33821", func := "tilefarm/tilefarmlaw10.SeparableTurns", spec := "separableTurns", apart := false }
def SeparableTurnsSaid : Prop := separableTurnsRow.holds Try.pinned (OpenSpec.ofChange separableTurnsSpec)

/-- ITS FALSE NEIGHBOUR: 'it returns false'. Refute it at one input. -/
def separableTurnsWrong : ChangeSpec := { name := "separableTurns", fn := fun _ => fun
  | [d] => { results := [.lit (.bool false)], args := [d] }
  | _ => none }
def SeparableTurnsWrongFalsely : Prop := separableTurnsRow.holds Try.pinned (OpenSpec.ofChange separableTurnsWrong)

/-- 'tilefarmlaw11.ResizeChecks': WHATEVER THE INPUT: true; the input reads as it did. -/
def resizeChecksSpec : ChangeSpec := { name := "resizeChecks", fn := fun _ => fun
  | [d1, d2, d3, d4, d5, d6, d7] => { results := [.lit (.bool true)], args := [d1, d2, d3, d4, d5, d6, d7] }
  | _ => none }
def resizeChecksRow : OpenClaim := { program := "ytkpdahjddjdgcaa", sum := "729d17fb1aef79484dde801479c6e6dcd35b76999344320d8235ea552ed33821", func := "tilefarm/tilefarmlaw11.ResizeChecks", spec := "resizeChecks", unfollowed := true, recurses := true, apart := false }
def ResizeChecksSaid : Prop := resizeChecksRow.holds Try.pinned (OpenSpec.ofChange resizeChecksSpec)

/-- ITS FALSE NEIGHBOUR: 'it returns false'. Refute it at one input. -/
def resizeChecksWrong : ChangeSpec := { name := "resizeChecks", fn := fun _ => fun
  | [d1, d2, d3, d4, d5, d6, d7] => { results := [.lit (.bool false)], args := [d1, d2, d3, d4, d5, d6, d7] }
  | _ => none }
def ResizeChecksWrongFalsely : Prop := resizeChecksRow.holds Try.pinned (OpenSpec.ofChange resizeChecksWrong)

/-- 'tilefarmlaw11.ResizeTiles': WHATEVER THE INPUT: true; the input reads as it did. -/
def resizeTilesSpec : ChangeSpec := { name := "resizeTiles", fn := fun _ => fun
  | [d1, d2] => { results := [.lit (.bool true)], args := [d1, d2] }
  | _ => none }
def resizeTilesRow : OpenClaim := { program := "ytkpdahjddjdgcaa", sum := "729d17fb1aef79484dde801479c6e6dcd35b76999344320d8235ea552ed33821", func := "tilefarm/tilefarmlaw11.ResizeTiles", spec := "resizeTiles", unfollowed := true, recurses := true, apart := false }
def ResizeTilesSaid : Prop := resizeTilesRow.holds Try.pinned (OpenSpec.ofChange resizeTilesSpec)

/-- ITS FALSE NEIGHBOUR: 'it returns false'. Refute it at one input. -/
def resizeTilesWrong : ChangeSpec := { name := "resizeTiles", fn := fun _ => fun
  | [d1, d2] => { results := [.lit (.bool false)], args := [d1, d2] }
  | _ => none }
def ResizeTilesWrongFalsely : Prop := resizeTilesRow.holds Try.pinned (OpenSpec.ofChange resizeTilesWrong)

/-- 'tilefarmlaw11.ResizeCrops': WHATEVER THE INPUT: true; the input reads as it did. -/
def resizeCropsSpec : ChangeSpec := { name := "resizeCrops", fn := fun _ => fun
  | [d] => { results := [.lit (.bool true)], args := [d] }
  | _ => none }
def resizeCropsRow : OpenClaim := { program := "ytkpdahjddjdgcaa", sum := "729d17fb1aef79484dde801479c6e6dcd35b76999344320d8235ea552ed33821", func := "tilefarm/tilefarmlaw11.ResizeCrops", spec := "resizeCrops", unfollowed := true, recurses := true, apart := false }
def ResizeCropsSaid : Prop := resizeCropsRow.holds Try.pinned (OpenSpec.ofChange resizeCropsSpec)

/-- ITS FALSE NEIGHBOUR: 'it returns false'. Refute it at one input. -/
def resizeCropsWrong : ChangeSpec := { name := "resizeCrops", fn := fun _ => fun
  | [d] => { results := [.lit (.bool false)], args := [d] }
  | _ => none }
def ResizeCropsWrongFalsely : Prop := resizeCropsRow.holds Try.pinned (OpenSpec.ofChange resizeCropsWrong)

/-- 'tilefarmlaw10.SeparableDense': WHATEVER THE INPUT: true; the input reads as it did. -/
def separableDenseSpec : ChangeSpec := { name := "separableDense", fn := fun _ => fun
  | [d] => { results := [.lit (.bool true)], args := [d] }
  | _ => none }
def separableDenseRow : OpenClaim := { program := "ytkpdahjddjdgcaa", sum := "729d17fb1aef79484dde801479c6e6dcd35b76999344320d8235ea552ed33821", func := "tilefarm/tilefarmlaw10.SeparableDense", spec := "separableDense", apart := false }
def SeparableDenseSaid : Prop := separableDenseRow.holds Try.pinned (OpenSpec.ofChange separableDenseSpec)

/-- ITS FALSE NEIGHBOUR: 'it returns false'. Refute it at one input. -/
def separableDenseWrong : ChangeSpec := { name := "separableDense", fn := fun _ => fun
  | [d] => { results := [.lit (.bool false)], args := [d] }
  | _ => none }
def SeparableDenseWrongFalsely : Prop := separableDenseRow.holds Try.pinned (OpenSpec.ofChange separableDenseWrong)

/-- 'tilefarmlaw11.ResizeMeans': WHATEVER THE INPUT: true; the input reads as it did. -/
def resizeMeansSpec : ChangeSpec := { name := "resizeMeans", fn := fun _ => fun
  | [d] => { results := [.lit (.bool true)], args := [d] }
  | _ => none }
def resizeMeansRow : OpenClaim := { program := "ytkpdahjddjdgcaa", sum := "729d17fb1aef79484dde801479c6e6dcd35b76999344320d8235ea552ed33821", func := "tilefarm/tilefarmlaw11.ResizeMeans", spec := "resizeMeans", unfollowed := true, recurses := true, apart := false }
def ResizeMeansSaid : Prop := resizeMeansRow.holds Try.pinned (OpenSpec.ofChange resizeMeansSpec)

/-- ITS FALSE NEIGHBOUR: 'it returns false'. Refute it at one input. -/
def resizeMeansWrong : ChangeSpec := { name := "resizeMeans", fn := fun _ => fun
  | [d] => { results := [.lit (.bool false)], args := [d] }
  | _ => none }
def ResizeMeansWrongFalsely : Prop := resizeMeansRow.holds Try.pinned (OpenSpec.ofChange resizeMeansWrong)

/- THE SECOND FORM. 'bulk': how many values and letters a reading holds, each counted each time it is reached (what is shared counts as often as it is met; a slice's spare places count too). A statement '..UptoSaid' is the law's where the arguments, and the package variables that the reading takes, are together of bulk at most 1048576: NARROWER than '..Said'. Prove '..Said' where nothing that the law and all that it calls make is longer than what came in: it says more and counts as full. Else prove '..UptoSaid'. A law counts once. -/
mutual
def uptoBulk {H : Type} : DataW H → Nat
  | .lit (.string bytes) => bytes.length + 1
  | .lit _ => 1
  | .nil => 1
  | .ptr d => uptoBulk d + 1
  | .slice elems spare => uptoBulkAll elems + uptoBulkAll spare + 1
  | .agg parts => uptoBulkAll parts + 1
  | .iface _ d => uptoBulk d + 1
  | .map entries => uptoBulkEntries entries + 1
  | .held _ => 1
def uptoBulkAll {H : Type} : List (DataW H) → Nat
  | [] => 0
  | d :: r => uptoBulk d + uptoBulkAll r
def uptoBulkEntries {H : Type} : List (Lit × DataW H) → Nat
  | [] => 0
  | x :: r => uptoBulkEntry x + uptoBulkEntries r
def uptoBulkEntry {H : Type} : Lit × DataW H → Nat
  | (.string bytes, d) => bytes.length + uptoBulk d + 1
  | (_, d) => uptoBulk d + 1
 end
def uptoSmall : (H : Type) → List (DataW H) → Bool := fun _ ds => decide (uptoBulkAll ds ≤ 1048576)
def OpenSpec.upto (s : _root_.Go.ChangeSpec) : _root_.Go.OpenSpec := { _root_.Go.OpenSpec.ofChange s with cond := some uptoSmall }

/-- 'tilefarmlaw9.ConvolveChecks', WHERE WHAT IT READS IS OF BULK AT MOST 1048576: true; the input reads as it did. -/
def convolveChecksUptoRow : OpenClaim := { program := "ytkpdahjddjdgcaa", sum := "729d17fb1aef79484dde801479c6e6dcd35b76999344320d8235ea552ed33821", func := "tilefarm/tilefarmlaw9.ConvolveChecks", spec := "convolveChecks", apart := false, narrowed := true }
def ConvolveChecksUptoSaid : Prop := convolveChecksUptoRow.holds Try.pinned (OpenSpec.upto convolveChecksSpec)

/-- 'tilefarmlaw9.ConvolveTiles', WHERE WHAT IT READS IS OF BULK AT MOST 1048576: true; the input reads as it did. -/
def convolveTilesUptoRow : OpenClaim := { program := "ytkpdahjddjdgcaa", sum := "729d17fb1aef79484dde801479c6e6dcd35b76999344320d8235ea552ed33821", func := "tilefarm/tilefarmlaw9.ConvolveTiles", spec := "convolveTiles", apart := false, narrowed := true }
def ConvolveTilesUptoSaid : Prop := convolveTilesUptoRow.holds Try.pinned (OpenSpec.upto convolveTilesSpec)

/-- 'tilefarmlaw9.ConvolveCrops', WHERE WHAT IT READS IS OF BULK AT MOST 1048576: true; the input reads as it did. -/
def convolveCropsUptoRow : OpenClaim := { program := "ytkpdahjddjdgcaa", sum := "729d17fb1aef79484dde801479c6e6dcd35b76999344320d8235ea552ed33821", func := "tilefarm/tilefarmlaw9.ConvolveCrops", spec := "convolveCrops", apart := false, narrowed := true }
def ConvolveCropsUptoSaid : Prop := convolveCropsUptoRow.holds Try.pinned (OpenSpec.upto convolveCropsSpec)

/-- 'tilefarmlaw9.ConvolveLinear', WHERE WHAT IT READS IS OF BULK AT MOST 1048576: true; the input reads as it did. -/
def convolveLinearUptoRow : OpenClaim := { program := "ytkpdahjddjdgcaa", sum := "729d17fb1aef79484dde801479c6e6dcd35b76999344320d8235ea552ed33821", func := "tilefarm/tilefarmlaw9.ConvolveLinear", spec := "convolveLinear", apart := false, narrowed := true }
def ConvolveLinearUptoSaid : Prop := convolveLinearUptoRow.holds Try.pinned (OpenSpec.upto convolveLinearSpec)

/-- 'tilefarmlaw9.ConvolveMoves', WHERE WHAT IT READS IS OF BULK AT MOST 1048576: true; the input reads as it did. -/
def convolveMovesUptoRow : OpenClaim := { program := "ytkpdahjddjdgcaa", sum := "729d17fb1aef79484dde801479c6e6dcd35b76999344320d8235ea552ed33821", func := "tilefarm/tilefarmlaw9.ConvolveMoves", spec := "convolveMoves", apart := false, narrowed := true }
def ConvolveMovesUptoSaid : Prop := convolveMovesUptoRow.holds Try.pinned (OpenSpec.upto convolveMovesSpec)

/-- 'tilefarmlaw10.SeparableChecks', WHERE WHAT IT READS IS OF BULK AT MOST 1048576: true; the input reads as it did. -/
def separableChecksUptoRow : OpenClaim := { program := "ytkpdahjddjdgcaa", sum := "729d17fb1aef79484dde801479c6e6dcd35b76999344320d8235ea552ed33821", func := "tilefarm/tilefarmlaw10.SeparableChecks", spec := "separableChecks", apart := false, narrowed := true }
def SeparableChecksUptoSaid : Prop := separableChecksUptoRow.holds Try.pinned (OpenSpec.upto separableChecksSpec)

/-- 'tilefarmlaw10.SeparableTiles', WHERE WHAT IT READS IS OF BULK AT MOST 1048576: true; the input reads as it did. -/
def separableTilesUptoRow : OpenClaim := { program := "ytkpdahjddjdgcaa", sum := "729d17fb1aef79484dde801479c6e6dcd35b76999344320d8235ea552ed33821", func := "tilefarm/tilefarmlaw10.SeparableTiles", spec := "separableTiles", apart := false, narrowed := true }
def SeparableTilesUptoSaid : Prop := separableTilesUptoRow.holds Try.pinned (OpenSpec.upto separableTilesSpec)

/-- 'tilefarmlaw10.SeparableCrops', WHERE WHAT IT READS IS OF BULK AT MOST 1048576: true; the input reads as it did. -/
def separableCropsUptoRow : OpenClaim := { program := "ytkpdahjddjdgcaa", sum := "729d17fb1aef79484dde801479c6e6dcd35b76999344320d8235ea552ed33821", func := "tilefarm/tilefarmlaw10.SeparableCrops", spec := "separableCrops", apart := false, narrowed := true }
def SeparableCropsUptoSaid : Prop := separableCropsUptoRow.holds Try.pinned (OpenSpec.upto separableCropsSpec)

/-- 'tilefarmlaw10.SeparableTurns', WHERE WHAT IT READS IS OF BULK AT MOST 1048576: true; the input reads as it did. -/
def separableTurnsUptoRow : OpenClaim := { program := "ytkpdahjddjdgcaa", sum := "729d17fb1aef79484dde801479c6e6dcd35b76999344320d8235ea552ed33821", func := "tilefarm/tilefarmlaw10.SeparableTurns", spec := "separableTurns", apart := false, narrowed := true }
def SeparableTurnsUptoSaid : Prop := separableTurnsUptoRow.holds Try.pinned (OpenSpec.upto separableTurnsSpec)

/-- 'tilefarmlaw11.ResizeChecks', WHERE WHAT IT READS IS OF BULK AT MOST 1048576: true; the input reads as it did. -/
def resizeChecksUptoRow : OpenClaim := { program := "ytkpdahjddjdgcaa", sum := "729d17fb1aef79484dde801479c6e6dcd35b76999344320d8235ea552ed33821", func := "tilefarm/tilefarmlaw11.ResizeChecks", spec := "resizeChecks", unfollowed := true, recurses := true, apart := false, narrowed := true }
def ResizeChecksUptoSaid : Prop := resizeChecksUptoRow.holds Try.pinned (OpenSpec.upto resizeChecksSpec)

/-- 'tilefarmlaw11.ResizeTiles', WHERE WHAT IT READS IS OF BULK AT MOST 1048576: true; the input reads as it did. -/
def resizeTilesUptoRow : OpenClaim := { program := "ytkpdahjddjdgcaa", sum := "729d17fb1aef79484dde801479c6e6dcd35b76999344320d8235ea552ed33821", func := "tilefarm/tilefarmlaw11.ResizeTiles", spec := "resizeTiles", unfollowed := true, recurses := true, apart := false, narrowed := true }
def ResizeTilesUptoSaid : Prop := resizeTilesUptoRow.holds Try.pinned (OpenSpec.upto resizeTilesSpec)

/-- 'tilefarmlaw11.ResizeCrops', WHERE WHAT IT READS IS OF BULK AT MOST 1048576: true; the input reads as it did. -/
def resizeCropsUptoRow : OpenClaim := { program := "ytkpdahjddjdgcaa", sum := "729d17fb1aef79484dde801479c6e6dcd35b76999344320d8235ea552ed33821", func := "tilefarm/tilefarmlaw11.ResizeCrops", spec := "resizeCrops", unfollowed := true, recurses := true, apart := false, narrowed := true }
def ResizeCropsUptoSaid : Prop := resizeCropsUptoRow.holds Try.pinned (OpenSpec.upto resizeCropsSpec)

/-- 'tilefarmlaw10.SeparableDense', WHERE WHAT IT READS IS OF BULK AT MOST 1048576: true; the input reads as it did. -/
def separableDenseUptoRow : OpenClaim := { program := "ytkpdahjddjdgcaa", sum := "729d17fb1aef79484dde801479c6e6dcd35b76999344320d8235ea552ed33821", func := "tilefarm/tilefarmlaw10.SeparableDense", spec := "separableDense", apart := false, narrowed := true }
def SeparableDenseUptoSaid : Prop := separableDenseUptoRow.holds Try.pinned (OpenSpec.upto separableDenseSpec)

/-- 'tilefarmlaw11.ResizeMeans', WHERE WHAT IT READS IS OF BULK AT MOST 1048576: true; the input reads as it did. -/
def resizeMeansUptoRow : OpenClaim := { program := "ytkpdahjddjdgcaa", sum := "729d17fb1aef79484dde801479c6e6dcd35b76999344320d8235ea552ed33821", func := "tilefarm/tilefarmlaw11.ResizeMeans", spec := "resizeMeans", unfollowed := true, recurses := true, apart := false, narrowed := true }
def ResizeMeansUptoSaid : Prop := resizeMeansUptoRow.holds Try.pinned (OpenSpec.upto resizeMeansSpec)

end Rows
end Go.Proofs.Ytkpdahjddjdgcaa
