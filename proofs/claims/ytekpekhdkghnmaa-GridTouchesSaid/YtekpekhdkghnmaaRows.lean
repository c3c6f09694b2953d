/-
  No cell of these rows narrows 'for every input' (looked for: loops, veiled, ifaces, maps, wideKeys, modest, calm, conditions, laid).
  DERIVED. THE GIVEN ROWS OF THIS SEAT. 9 by the template 'for every input the law returns true; each argument reads behind the call as it read before'; 0 by the template 'total and deterministic' (their statements: YtekpekhdkghnmaaTotals.lean).
  GIVEN WITH THE SEED: the statements are not yours to turn. If you find one false, say at which input.
  Laid BY PROGRAM, IN A SANDBOX (cutbox-rows.mjs): the forced cells as the released guide's own fill.sh prints them over the translation 610aad8b10b2c590… (all of the seat's roots in one cut). By AI agents, Wed Nov 11 2026. No macro, syntax, notation, axiom, sorry.
-/
import Derived.Test.YtekpekhdkghnmaaChecked
import GoSem.Claim
import GoSem.ClaimJoined
import GoSem.ClaimMapViews
import Derived.JoinedTies
import Derived.KernelRfl
namespace Go.Proofs.Ytekpekhdkghnmaa
/- THE CELL 'sum', in the pinned program and in every row, IS THE sha256 OF THE DUMP (.gsa) THAT YtekpekhdkghnmaaProg.lean LOADS. Nothing in Lean hashes anything: it is a label: what it is worth is what the hold of that sum in a sandbox is worth. -/
noncomputable def Try.pinned : Pinned := { name := "ytekpekhdkghnmaa", sum := "610aad8b10b2c590a6f1a50620f7b9fd9036592d3e43143cf86a9c0c73d237a0", checked := Try.checked }
namespace Rows
def none {H : Type} : Left H := { results := [], args := [] }

/-- 'tilefarmlaw3.BorderMirrors': WHATEVER THE INPUT: true; the input reads as it did. -/
def borderMirrorsSpec : ChangeSpec := { name := "borderMirrors", fn := fun _ => fun
  | [d1, d2] => { results := [.lit (.bool true)], args := [d1, d2] }
  | _ => none }
def borderMirrorsRow : OpenClaim := { program := "ytekpekhdkghnmaa", sum := "610aad8b10b2c590a6f1a50620f7b9fd9036592d3e43143cf86a9c0c73d237a0", func := "tilefarm/tilefarmlaw3.BorderMirrors", spec := "borderMirrors", apart := false }
def BorderMirrorsSaid : Prop := borderMirrorsRow.holds Try.pinned (OpenSpec.ofChange borderMirrorsSpec)

/-- ITS FALSE NEIGHBOUR: 'it returns false'. Refute it at one input. -/
def borderMirrorsWrong : ChangeSpec := { name := "borderMirrors", fn := fun _ => fun
  | [d1, d2] => { results := [.lit (.bool false)], args := [d1, d2] }
  | _ => none }
def BorderMirrorsWrongFalsely : Prop := borderMirrorsRow.holds Try.pinned (OpenSpec.ofChange borderMirrorsWrong)

/-- 'tilefarmlaw3.BorderIndex': WHATEVER THE INPUT: true; the input reads as it did. -/
def borderIndexSpec : ChangeSpec := { name := "borderIndex", fn := fun _ => fun
  | [d1, d2, d3, d4, d5] => { results := [.lit (.bool true)], args := [d1, d2, d3, d4, d5] }
  | _ => none }
def borderIndexRow : OpenClaim := { program := "ytekpekhdkghnmaa", sum := "610aad8b10b2c590a6f1a50620f7b9fd9036592d3e43143cf86a9c0c73d237a0", func := "tilefarm/tilefarmlaw3.BorderIndex", spec := "borderIndex", apart := false }
def BorderIndexSaid : Prop := borderIndexRow.holds Try.pinned (OpenSpec.ofChange borderIndexSpec)

/-- ITS FALSE NEIGHBOUR: 'it returns false'. Refute it at one input. -/
def borderIndexWrong : ChangeSpec := { name := "borderIndex", fn := fun _ => fun
  | [d1, d2, d3, d4, d5] => { results := [.lit (.bool false)], args := [d1, d2, d3, d4, d5] }
  | _ => none }
def BorderIndexWrongFalsely : Prop := borderIndexRow.holds Try.pinned (OpenSpec.ofChange borderIndexWrong)

/-- 'tilefarmlaw3.BorderRange': WHATEVER THE INPUT: true; the input reads as it did. -/
def borderRangeSpec : ChangeSpec := { name := "borderRange", fn := fun _ => fun
  | [d1, d2, d3, d4, d5] => { results := [.lit (.bool true)], args := [d1, d2, d3, d4, d5] }
  | _ => none }
def borderRangeRow : OpenClaim := { program := "ytekpekhdkghnmaa", sum := "610aad8b10b2c590a6f1a50620f7b9fd9036592d3e43143cf86a9c0c73d237a0", func := "tilefarm/tilefarmlaw3.BorderRange", spec := "borderRange", apart := false }
def BorderRangeSaid : Prop := borderRangeRow.holds Try.pinned (OpenSpec.ofChange borderRangeSpec)

/-- ITS FALSE NEIGHBOUR: 'it returns false'. Refute it at one input. -/
def borderRangeWrong : ChangeSpec := { name := "borderRange", fn := fun _ => fun
  | [d1, d2, d3, d4, d5] => { results := [.lit (.bool false)], args := [d1, d2, d3, d4, d5] }
  | _ => none }
def BorderRangeWrongFalsely : Prop := borderRangeRow.holds Try.pinned (OpenSpec.ofChange borderRangeWrong)

/-- 'tilefarmlaw3.BorderPeriod': WHATEVER THE INPUT: true; the input reads as it did. -/
def borderPeriodSpec : ChangeSpec := { name := "borderPeriod", fn := fun _ => fun
  | [d1, d2] => { results := [.lit (.bool true)], args := [d1, d2] }
  | _ => none }
def borderPeriodRow : OpenClaim := { program := "ytekpekhdkghnmaa", sum := "610aad8b10b2c590a6f1a50620f7b9fd9036592d3e43143cf86a9c0c73d237a0", func := "tilefarm/tilefarmlaw3.BorderPeriod", spec := "borderPeriod", apart := false }
def BorderPeriodSaid : Prop := borderPeriodRow.holds Try.pinned (OpenSpec.ofChange borderPeriodSpec)

/-- ITS FALSE NEIGHBOUR: 'it returns false'. Refute it at one input. -/
def borderPeriodWrong : ChangeSpec := { name := "borderPeriod", fn := fun _ => fun
  | [d1, d2] => { results := [.lit (.bool false)], args := [d1, d2] }
  | _ => none }
def BorderPeriodWrongFalsely : Prop := borderPeriodRow.holds Try.pinned (OpenSpec.ofChange borderPeriodWrong)

/-- 'tilefarmlaw3.BorderSpan': WHATEVER THE INPUT: true; the input reads as it did. -/
def borderSpanSpec : ChangeSpec := { name := "borderSpan", fn := fun _ => fun
  | [d1, d2, d3, d4] => { results := [.lit (.bool true)], args := [d1, d2, d3, d4] }
  | _ => none }
def borderSpanRow : OpenClaim := { program := "ytekpekhdkghnmaa", sum := "610aad8b10b2c590a6f1a50620f7b9fd9036592d3e43143cf86a9c0c73d237a0", func := "tilefarm/tilefarmlaw3.BorderSpan", spec := "borderSpan", apart := false }
def BorderSpanSaid : Prop := borderSpanRow.holds Try.pinned (OpenSpec.ofChange borderSpanSpec)

/-- ITS FALSE NEIGHBOUR: 'it returns false'. Refute it at one input. -/
def borderSpanWrong : ChangeSpec := { name := "borderSpan", fn := fun _ => fun
  | [d1, d2, d3, d4] => { results := [.lit (.bool false)], args := [d1, d2, d3, d4] }
  | _ => none }
def BorderSpanWrongFalsely : Prop := borderSpanRow.holds Try.pinned (OpenSpec.ofChange borderSpanWrong)

/-- 'tilefarmlaw5.GridOrder': WHATEVER THE INPUT: true; the input reads as it did. -/
def gridOrderSpec : ChangeSpec := { name := "gridOrder", fn := fun _ => fun
  | [d1, d2, d3, d4, d5, d6, d7] => { results := [.lit (.bool true)], args := [d1, d2, d3, d4, d5, d6, d7] }
  | _ => none }
def gridOrderRow : OpenClaim := { program := "ytekpekhdkghnmaa", sum := "610aad8b10b2c590a6f1a50620f7b9fd9036592d3e43143cf86a9c0c73d237a0", func := "tilefarm/tilefarmlaw5.GridOrder", spec := "gridOrder", apart := false }
def GridOrderSaid : Prop := gridOrderRow.holds Try.pinned (OpenSpec.ofChange gridOrderSpec)

/-- ITS FALSE NEIGHBOUR: 'it returns false'. Refute it at one input. -/
def gridOrderWrong : ChangeSpec := { name := "gridOrder", fn := fun _ => fun
  | [d1, d2, d3, d4, d5, d6, d7] => { results := [.lit (.bool false)], args := [d1, d2, d3, d4, d5, d6, d7] }
  | _ => none }
def GridOrderWrongFalsely : Prop := gridOrderRow.holds Try.pinned (OpenSpec.ofChange gridOrderWrong)

/-- 'tilefarmlaw5.GridTiles': WHATEVER THE INPUT: true; the input reads as it did. -/
def gridTilesSpec : ChangeSpec := { name := "gridTiles", fn := fun _ => fun
  | [d1, d2, d3, d4, d5, d6, d7, d8, d9] => { results := [.lit (.bool true)], args := [d1, d2, d3, d4, d5, d6, d7, d8, d9] }
  | _ => none }
def gridTilesRow : OpenClaim := { program := "ytekpekhdkghnmaa", sum := "610aad8b10b2c590a6f1a50620f7b9fd9036592d3e43143cf86a9c0c73d237a0", func := "tilefarm/tilefarmlaw5.GridTiles", spec := "gridTiles", apart := false }
def GridTilesSaid : Prop := gridTilesRow.holds Try.pinned (OpenSpec.ofChange gridTilesSpec)

/-- ITS FALSE NEIGHBOUR: 'it returns false'. Refute it at one input. -/
def gridTilesWrong : ChangeSpec := { name := "gridTiles", fn := fun _ => fun
  | [d1, d2, d3, d4, d5, d6, d7, d8, d9] => { results := [.lit (.bool false)], args := [d1, d2, d3, d4, d5, d6, d7, d8, d9] }
  | _ => none }
def GridTilesWrongFalsely : Prop := gridTilesRow.holds Try.pinned (OpenSpec.ofChange gridTilesWrong)

/-- 'tilefarmlaw5.GridPartition': WHATEVER THE INPUT: true; the input reads as it did. -/
def gridPartitionSpec : ChangeSpec := { name := "gridPartition", fn := fun _ => fun
  | [d1, d2, d3, d4, d5] => { results := [.lit (.bool true)], args := [d1, d2, d3, d4, d5] }
  | _ => none }
def gridPartitionRow : OpenClaim := { program := "ytekpekhdkghnmaa", sum := "610aad8b10b2c590a6f1a50620f7b9fd9036592d3e43143cf86a9c0c73d237a0", func := "tilefarm/tilefarmlaw5.GridPartition", spec := "gridPartition", apart := false }
def GridPartitionSaid : Prop := gridPartitionRow.holds Try.pinned (OpenSpec.ofChange gridPartitionSpec)

/-- ITS FALSE NEIGHBOUR: 'it returns false'. Refute it at one input. -/
def gridPartitionWrong : ChangeSpec := { name := "gridPartition", fn := fun _ => fun
  | [d1, d2, d3, d4, d5] => { results := [.lit (.bool false)], args := [d1, d2, d3, d4, d5] }
  | _ => none }
def GridPartitionWrongFalsely : Prop := gridPartitionRow.holds Try.pinned (OpenSpec.ofChange gridPartitionWrong)

/-- 'tilefarmlaw5.GridTouches': WHATEVER THE INPUT: true; the input reads as it did. -/
def gridTouchesSpec : ChangeSpec := { name := "gridTouches", fn := fun _ => fun
  | [d1, d2, d3] => { results := [.lit (.bool true)], args := [d1, d2, d3] }
  | _ => none }
def gridTouchesRow : OpenClaim := { program := "ytekpekhdkghnmaa", sum := "610aad8b10b2c590a6f1a50620f7b9fd9036592d3e43143cf86a9c0c73d237a0", func := "tilefarm/tilefarmlaw5.GridTouches", spec := "gridTouches", apart := false }
def GridTouchesSaid : Prop := gridTouchesRow.holds Try.pinned (OpenSpec.ofChange gridTouchesSpec)

/-- ITS FALSE NEIGHBOUR: 'it returns false'. Refute it at one input. -/
def gridTouchesWrong : ChangeSpec := { name := "gridTouches", fn := fun _ => fun
  | [d1, d2, d3] => { results := [.lit (.bool false)], args := [d1, d2, d3] }
  | _ => none }
def GridTouchesWrongFalsely : Prop := gridTouchesRow.holds Try.pinned (OpenSpec.ofChange gridTouchesWrong)

/- THE SECOND FORM. 'bulk': how many values and letters a reading holds, each counted each time it is reached (what is shared counts as often as it is met; a slice's spare places count too). A statement '..UptoSaid' is the law's where the arguments, and the package variables that the reading takes, are together of bulk at most 1048576: NARROWER than '..Said'. Prove '..Said' where nothing that the law and all that it calls make is longer than what came in: it says more and counts as full. Else prove '..UptoSaid'. A law counts once. -/
mutual
def uptoBulk {H : Type} : DataW H → Nat
  | .lit (.string bytes) => bytes.length + 1
  | .lit _ => 1
  | .nil => 1
  | .ptr d => uptoBulk d + 1
  | .slice elems spare => uptoBulkAll elems + uptoBulkAll spare + 1
  | .agg parts => uptoBulkAll parts + 1
  | .iface _ d => uptoBulk d + 1
  | .map entries => uptoBulkEntries entries + 1
  | .held _ => 1
def uptoBulkAll {H : Type} : List (DataW H) → Nat
  | [] => 0
  | d :: r => uptoBulk d + uptoBulkAll r
def uptoBulkEntries {H : Type} : List (Lit × DataW H) → Nat
  | [] => 0
  | x :: r => uptoBulkEntry x + uptoBulkEntries r
def uptoBulkEntry {H : Type} : Lit × DataW H → Nat
  | (.string bytes, d) => bytes.length + uptoBulk d + 1
  | (_, d) => uptoBulk d + 1
 end
def uptoSmall : (H : Type) → List (DataW H) → Bool := fun _ ds => decide (uptoBulkAll ds ≤ 1048576)
def OpenSpec.upto (s : _root_.Go.ChangeSpec) : _root_.Go.OpenSpec := { _root_.Go.OpenSpec.ofChange s with cond := some uptoSmall }

/-- 'tilefarmlaw3.BorderMirrors', WHERE WHAT IT READS IS OF BULK AT MOST 1048576: true; the input reads as it did. -/
def borderMirrorsUptoRow : OpenClaim := { program := "ytekpekhdkghnmaa", sum := "610aad8b10b2c590a6f1a50620f7b9fd9036592d3e43143cf86a9c0c73d237a0", func := "tilefarm/tilefarmlaw3.BorderMirrors", spec := "borderMirrors", apart := false, narrowed := true }
def BorderMirrorsUptoSaid : Prop := borderMirrorsUptoRow.holds Try.pinned (OpenSpec.upto borderMirrorsSpec)

/-- 'tilefarmlaw3.BorderIndex', WHERE WHAT IT READS IS OF BULK AT MOST 1048576: true; the input reads as it did. -/
def borderIndexUptoRow : OpenClaim := { program := "ytekpekhdkghnmaa", sum := "610aad8b10b2c590a6f1a50620f7b9fd9036592d3e43143cf86a9c0c73d237a0", func := "tilefarm/tilefarmlaw3.BorderIndex", spec := "borderIndex", apart := false, narrowed := true }
def BorderIndexUptoSaid : Prop := borderIndexUptoRow.holds Try.pinned (OpenSpec.upto borderIndexSpec)

/-- 'tilefarmlaw3.BorderRange', WHERE WHAT IT READS IS OF BULK AT MOST 1048576: true; the input reads as it did. -/
def borderRangeUptoRow : OpenClaim := { program := "ytekpekhdkghnmaa", sum := "610aad8b10b2c590a6f1a50620f7b9fd9036592d3e43143cf86a9c0c73d237a0", func := "tilefarm/tilefarmlaw3.BorderRange", spec := "borderRange", apart := false, narrowed := true }
def BorderRangeUptoSaid : Prop := borderRangeUptoRow.holds Try.pinned (OpenSpec.upto borderRangeSpec)

/-- 'tilefarmlaw3.BorderPeriod', WHERE WHAT IT READS IS OF BULK AT MOST 1048576: true; the input reads as it did. -/
def borderPeriodUptoRow : OpenClaim := { program := "ytekpekhdkghnmaa", sum := "610aad8b10b2c590a6f1a50620f7b9fd9036592d3e43143cf86a9c0c73d237a0", func := "tilefarm/tilefarmlaw3.BorderPeriod", spec := "borderPeriod", apart := false, narrowed := true }
def BorderPeriodUptoSaid : Prop := borderPeriodUptoRow.holds Try.pinned (OpenSpec.upto borderPeriodSpec)

/-- 'tilefarmlaw3.BorderSpan', WHERE WHAT IT READS IS OF BULK AT MOST 1048576: true; the input reads as it did. -/
def borderSpanUptoRow : OpenClaim := { program := "ytekpekhdkghnmaa", sum := "610aad8b10b2c590a6f1a50620f7b9fd9036592d3e43143cf86a9c0c73d237a0", func := "tilefarm/tilefarmlaw3.BorderSpan", spec := "borderSpan", apart := false, narrowed := true }
def BorderSpanUptoSaid : Prop := borderSpanUptoRow.holds Try.pinned (OpenSpec.upto borderSpanSpec)

/-- 'tilefarmlaw5.GridOrder', WHERE WHAT IT READS IS OF BULK AT MOST 1048576: true; the input reads as it did. -/
def gridOrderUptoRow : OpenClaim := { program := "ytekpekhdkghnmaa", sum := "610aad8b10b2c590a6f1a50620f7b9fd9036592d3e43143cf86a9c0c73d237a0", func := "tilefarm/tilefarmlaw5.GridOrder", spec := "gridOrder", apart := false, narrowed := true }
def GridOrderUptoSaid : Prop := gridOrderUptoRow.holds Try.pinned (OpenSpec.upto gridOrderSpec)

/-- 'tilefarmlaw5.GridTiles', WHERE WHAT IT READS IS OF BULK AT MOST 1048576: true; the input reads as it did. -/
def gridTilesUptoRow : OpenClaim := { program := "ytekpekhdkghnmaa", sum := "610aad8b10b2c590a6f1a50620f7b9fd9036592d3e43143cf86a9c0c73d237a0", func := "tilefarm/tilefarmlaw5.GridTiles", spec := "gridTiles", apart := false, narrowed := true }
def GridTilesUptoSaid : Prop := gridTilesUptoRow.holds Try.pinned (OpenSpec.upto gridTilesSpec)

/-- 'tilefarmlaw5.GridPartition', WHERE WHAT IT READS IS OF BULK AT MOST 1048576: true; the input reads as it did. -/
def gridPartitionUptoRow : OpenClaim := { program := "ytekpekhdkghnmaa", sum := "610aad8b10b2c590a6f1a50620f7b9fd9036592d3e43143cf86a9c0c73d237a0", func := "tilefarm/tilefarmlaw5.GridPartition", spec := "gridPartition", apart := false, narrowed := true }
def GridPartitionUptoSaid : Prop := gridPartitionUptoRow.holds Try.pinned (OpenSpec.upto gridPartitionSpec)

/-- 'tilefarmlaw5.GridTouches', WHERE WHAT IT READS IS OF BULK AT MOST 1048576: true; the input reads as it did. -/
def gridTouchesUptoRow : OpenClaim := { program := "ytekpekhdkghnmaa", sum := "610aad8b10b2c590a6f1a50620f7b9fd9036592d3e43143cf86a9c0c73d237a0", func := "tilefarm/tilefarmlaw5.GridTouches", spec := "gridTouches", apart := false, narrowed := true }
def GridTouchesUptoSaid : Prop := gridTouchesUptoRow.holds Try.pinned (OpenSpec.upto gridTouchesSpec)

end Rows
end Go.Proofs.Ytekpekhdkghnmaa
