/-
  No cell of these rows narrows 'for every input' (looked for: loops, veiled, ifaces, maps, wideKeys, modest, calm, conditions, laid).
  DERIVED. THE GIVEN ROWS OF THIS SEAT. 11 by the template 'for every input the law returns true; each argument reads behind the call as it read before'; 0 by the template 'total and deterministic' (their statements: YtnnpnljdefmmcaaTotals.lean).
  GIVEN WITH THE SEED: the statements are not yours to turn. If you find one false, say at which input.
  Laid BY PROGRAM, IN A SANDBOX (cutbox-rows.mjs): the forced cells as the released guide's own fill.sh prints them over the translation a2c0cedff9f436c8… (all of the seat's roots in one cut). By AI agents, Wed Nov 11 2026. No macro, syntax, notation, axiom, sorry.
-/
import Derived.Test.YtnnpnljdefmmcaaChecked
import GoSem.Claim
import GoSem.ClaimJoined
import GoSem.ClaimMapViews
import Derived.JoinedTies
import Derived.KernelRfl
namespace Go.Proofs.Ytnnpnljdefmmcaa
/- THE CELL 'sum', in the pinned program and in every row, IS THE sha256 OF THE DUMP (.gsa) THAT YtnnpnljdefmmcaaProg.lean LOADS. Nothing in Lean hashes anything: it is a label: what it is worth is what the hold of that sum in a sandbox is worth. -/
noncomputable def Try.pinned : Pinned := { name := "ytnnpnljdefmmcaa", sum := "a2c0cedff9f436c86f1e1fa2ecb0268dcde95928f6eb5e59967ab0e9fe39d87e", checked := Try.checked }
namespace Rows
def none {H : Type} : Left H := { results := [], args := [] }

/-- 'tilefarmlaw16.FootprintNeeds': WHATEVER THE INPUT: true; the input reads as it did. -/
def footprintNeedsSpec : ChangeSpec := { name := "footprintNeeds", fn := fun _ => fun
  | [d1, d2, d3, d4, d5] => { results := [.lit (.bool true)], args := [d1, d2, d3, d4, d5] }
  | _ => none }
def footprintNeedsRow : OpenClaim := { program := "ytnnpnljdefmmcaa", sum := "a2c0cedff9f436c86f1e1fa2ecb0268dcde95928f6eb5e59967ab0e9fe39d87e", func := "tilefarm/tilefarmlaw16.FootprintNeeds", spec := "footprintNeeds", unfollowed := true, recurses := true, apart := false }
def FootprintNeedsSaid : Prop := footprintNeedsRow.holds Try.pinned (OpenSpec.ofChange footprintNeedsSpec)

/-- ITS FALSE NEIGHBOUR: 'it returns false'. Refute it at one input. -/
def footprintNeedsWrong : ChangeSpec := { name := "footprintNeeds", fn := fun _ => fun
  | [d1, d2, d3, d4, d5] => { results := [.lit (.bool false)], args := [d1, d2, d3, d4, d5] }
  | _ => none }
def FootprintNeedsWrongFalsely : Prop := footprintNeedsRow.holds Try.pinned (OpenSpec.ofChange footprintNeedsWrong)

/-- 'tilefarmlaw16.FootprintGrows': WHATEVER THE INPUT: true; the input reads as it did. -/
def footprintGrowsSpec : ChangeSpec := { name := "footprintGrows", fn := fun _ => fun
  | [d1, d2] => { results := [.lit (.bool true)], args := [d1, d2] }
  | _ => none }
def footprintGrowsRow : OpenClaim := { program := "ytnnpnljdefmmcaa", sum := "a2c0cedff9f436c86f1e1fa2ecb0268dcde95928f6eb5e59967ab0e9fe39d87e", func := "tilefarm/tilefarmlaw16.FootprintGrows", spec := "footprintGrows", unfollowed := true, recurses := true, apart := false }
def FootprintGrowsSaid : Prop := footprintGrowsRow.holds Try.pinned (OpenSpec.ofChange footprintGrowsSpec)

/-- ITS FALSE NEIGHBOUR: 'it returns false'. Refute it at one input. -/
def footprintGrowsWrong : ChangeSpec := { name := "footprintGrows", fn := fun _ => fun
  | [d1, d2] => { results := [.lit (.bool false)], args := [d1, d2] }
  | _ => none }
def FootprintGrowsWrongFalsely : Prop := footprintGrowsRow.holds Try.pinned (OpenSpec.ofChange footprintGrowsWrong)

/-- 'tilefarmlaw16.FootprintTiles': WHATEVER THE INPUT: true; the input reads as it did. -/
def footprintTilesSpec : ChangeSpec := { name := "footprintTiles", fn := fun _ => fun
  | [d1, d2] => { results := [.lit (.bool true)], args := [d1, d2] }
  | _ => none }
def footprintTilesRow : OpenClaim := { program := "ytnnpnljdefmmcaa", sum := "a2c0cedff9f436c86f1e1fa2ecb0268dcde95928f6eb5e59967ab0e9fe39d87e", func := "tilefarm/tilefarmlaw16.FootprintTiles", spec := "footprintTiles", unfollowed := true, recurses := true, apart := false }
def FootprintTilesSaid : Prop := footprintTilesRow.holds Try.pinned (OpenSpec.ofChange footprintTilesSpec)

/-- ITS FALSE NEIGHBOUR: 'it returns false'. Refute it at one input. -/
def footprintTilesWrong : ChangeSpec := { name := "footprintTiles", fn := fun _ => fun
  | [d1, d2] => { results := [.lit (.bool false)], args := [d1, d2] }
  | _ => none }
def FootprintTilesWrongFalsely : Prop := footprintTilesRow.holds Try.pinned (OpenSpec.ofChange footprintTilesWrong)

/-- 'tilefarmlaw14.PointwisePrograms': WHATEVER THE INPUT: true; the input reads as it did. -/
def pointwiseProgramsSpec : ChangeSpec := { name := "pointwisePrograms", fn := fun _ => fun
  | [d1, d2, d3, d4, d5] => { results := [.lit (.bool true)], args := [d1, d2, d3, d4, d5] }
  | _ => none }
def pointwiseProgramsRow : OpenClaim := { program := "ytnnpnljdefmmcaa", sum := "a2c0cedff9f436c86f1e1fa2ecb0268dcde95928f6eb5e59967ab0e9fe39d87e", func := "tilefarm/tilefarmlaw14.PointwisePrograms", spec := "pointwisePrograms", apart := false }
def PointwiseProgramsSaid : Prop := pointwiseProgramsRow.holds Try.pinned (OpenSpec.ofChange pointwiseProgramsSpec)

/-- ITS FALSE NEIGHBOUR: 'it returns false'. Refute it at one input. -/
def pointwiseProgramsWrong : ChangeSpec := { name := "pointwisePrograms", fn := fun _ => fun
  | [d1, d2, d3, d4, d5] => { results := [.lit (.bool false)], args := [d1, d2, d3, d4, d5] }
  | _ => none }
def PointwiseProgramsWrongFalsely : Prop := pointwiseProgramsRow.holds Try.pinned (OpenSpec.ofChange pointwiseProgramsWrong)

/-- 'tilefarmlaw14.PointwiseWithin': WHATEVER THE INPUT: true; the input reads as it did. -/
def pointwiseWithinSpec : ChangeSpec := { name := "pointwiseWithin", fn := fun _ => fun
  | [d1, d2, d3] => { results := [.lit (.bool true)], args := [d1, d2, d3] }
  | _ => none }
def pointwiseWithinRow : OpenClaim := { program := "ytnnpnljdefmmcaa", sum := "a2c0cedff9f436c86f1e1fa2ecb0268dcde95928f6eb5e59967ab0e9fe39d87e", func := "tilefarm/tilefarmlaw14.PointwiseWithin", spec := "pointwiseWithin", apart := false }
def PointwiseWithinSaid : Prop := pointwiseWithinRow.holds Try.pinned (OpenSpec.ofChange pointwiseWithinSpec)

/-- ITS FALSE NEIGHBOUR: 'it returns false'. Refute it at one input. -/
def pointwiseWithinWrong : ChangeSpec := { name := "pointwiseWithin", fn := fun _ => fun
  | [d1, d2, d3] => { results := [.lit (.bool false)], args := [d1, d2, d3] }
  | _ => none }
def PointwiseWithinWrongFalsely : Prop := pointwiseWithinRow.holds Try.pinned (OpenSpec.ofChange pointwiseWithinWrong)

/-- 'tilefarmlaw14.PointwiseJoins': WHATEVER THE INPUT: true; the input reads as it did. -/
def pointwiseJoinsSpec : ChangeSpec := { name := "pointwiseJoins", fn := fun _ => fun
  | [d1, d2, d3] => { results := [.lit (.bool true)], args := [d1, d2, d3] }
  | _ => none }
def pointwiseJoinsRow : OpenClaim := { program := "ytnnpnljdefmmcaa", sum := "a2c0cedff9f436c86f1e1fa2ecb0268dcde95928f6eb5e59967ab0e9fe39d87e", func := "tilefarm/tilefarmlaw14.PointwiseJoins", spec := "pointwiseJoins", apart := false }
def PointwiseJoinsSaid : Prop := pointwiseJoinsRow.holds Try.pinned (OpenSpec.ofChange pointwiseJoinsSpec)

/-- ITS FALSE NEIGHBOUR: 'it returns false'. Refute it at one input. -/
def pointwiseJoinsWrong : ChangeSpec := { name := "pointwiseJoins", fn := fun _ => fun
  | [d1, d2, d3] => { results := [.lit (.bool false)], args := [d1, d2, d3] }
  | _ => none }
def PointwiseJoinsWrongFalsely : Prop := pointwiseJoinsRow.holds Try.pinned (OpenSpec.ofChange pointwiseJoinsWrong)

/-- 'tilefarmlaw14.PointwiseOrderless': WHATEVER THE INPUT: true; the input reads as it did. -/
def pointwiseOrderlessSpec : ChangeSpec := { name := "pointwiseOrderless", fn := fun _ => fun
  | [d1, d2] => { results := [.lit (.bool true)], args := [d1, d2] }
  | _ => none }
def pointwiseOrderlessRow : OpenClaim := { program := "ytnnpnljdefmmcaa", sum := "a2c0cedff9f436c86f1e1fa2ecb0268dcde95928f6eb5e59967ab0e9fe39d87e", func := "tilefarm/tilefarmlaw14.PointwiseOrderless", spec := "pointwiseOrderless", apart := false }
def PointwiseOrderlessSaid : Prop := pointwiseOrderlessRow.holds Try.pinned (OpenSpec.ofChange pointwiseOrderlessSpec)

/-- ITS FALSE NEIGHBOUR: 'it returns false'. Refute it at one input. -/
def pointwiseOrderlessWrong : ChangeSpec := { name := "pointwiseOrderless", fn := fun _ => fun
  | [d1, d2] => { results := [.lit (.bool false)], args := [d1, d2] }
  | _ => none }
def PointwiseOrderlessWrongFalsely : Prop := pointwiseOrderlessRow.holds Try.pinned (OpenSpec.ofChange pointwiseOrderlessWrong)

/-- 'tilefarmlaw16.FootprintRanges': WHATEVER THE INPUT: true; the input reads as it did. -/
def footprintRangesSpec : ChangeSpec := { name := "footprintRanges", fn := fun _ => fun
  | [d1, d2] => { results := [.lit (.bool true)], args := [d1, d2] }
  | _ => none }
def footprintRangesRow : OpenClaim := { program := "ytnnpnljdefmmcaa", sum := "a2c0cedff9f436c86f1e1fa2ecb0268dcde95928f6eb5e59967ab0e9fe39d87e", func := "tilefarm/tilefarmlaw16.FootprintRanges", spec := "footprintRanges", unfollowed := true, recurses := true, apart := false }
def FootprintRangesSaid : Prop := footprintRangesRow.holds Try.pinned (OpenSpec.ofChange footprintRangesSpec)

/-- ITS FALSE NEIGHBOUR: 'it returns false'. Refute it at one input. -/
def footprintRangesWrong : ChangeSpec := { name := "footprintRanges", fn := fun _ => fun
  | [d1, d2] => { results := [.lit (.bool false)], args := [d1, d2] }
  | _ => none }
def FootprintRangesWrongFalsely : Prop := footprintRangesRow.holds Try.pinned (OpenSpec.ofChange footprintRangesWrong)

/-- 'tilefarmlaw14.PointwiseTiles': WHATEVER THE INPUT: true; the input reads as it did. -/
def pointwiseTilesSpec : ChangeSpec := { name := "pointwiseTiles", fn := fun _ => fun
  | [d1, d2] => { results := [.lit (.bool true)], args := [d1, d2] }
  | _ => none }
def pointwiseTilesRow : OpenClaim := { program := "ytnnpnljdefmmcaa", sum := "a2c0cedff9f436c86f1e1fa2ecb0268dcde95928f6eb5e59967ab0e9fe39d87e", func := "tilefarm/tilefarmlaw14.PointwiseTiles", spec := "pointwiseTiles", apart := false }
def PointwiseTilesSaid : Prop := pointwiseTilesRow.holds Try.pinned (OpenSpec.ofChange pointwiseTilesSpec)

/-- ITS FALSE NEIGHBOUR: 'it returns false'. Refute it at one input. -/
def pointwiseTilesWrong : ChangeSpec := { name := "pointwiseTiles", fn := fun _ => fun
  | [d1, d2] => { results := [.lit (.bool false)], args := [d1, d2] }
  | _ => none }
def PointwiseTilesWrongFalsely : Prop := pointwiseTilesRow.holds Try.pinned (OpenSpec.ofChange pointwiseTilesWrong)

/-- 'tilefarmlaw15.ShapeChecks': WHATEVER THE INPUT: true; the input reads as it did. -/
def shapeChecksSpec : ChangeSpec := { name := "shapeChecks", fn := fun _ => fun
  | [d1, d2, d3] => { results := [.lit (.bool true)], args := [d1, d2, d3] }
  | _ => none }
def shapeChecksRow : OpenClaim := { program := "ytnnpnljdefmmcaa", sum := "a2c0cedff9f436c86f1e1fa2ecb0268dcde95928f6eb5e59967ab0e9fe39d87e", func := "tilefarm/tilefarmlaw15.ShapeChecks", spec := "shapeChecks", unfollowed := true, recurses := true, apart := false }
def ShapeChecksSaid : Prop := shapeChecksRow.holds Try.pinned (OpenSpec.ofChange shapeChecksSpec)

/-- ITS FALSE NEIGHBOUR: 'it returns false'. Refute it at one input. -/
def shapeChecksWrong : ChangeSpec := { name := "shapeChecks", fn := fun _ => fun
  | [d1, d2, d3] => { results := [.lit (.bool false)], args := [d1, d2, d3] }
  | _ => none }
def ShapeChecksWrongFalsely : Prop := shapeChecksRow.holds Try.pinned (OpenSpec.ofChange shapeChecksWrong)

/-- 'tilefarmlaw15.ShapeFields': WHATEVER THE INPUT: true; the input reads as it did. -/
def shapeFieldsSpec : ChangeSpec := { name := "shapeFields", fn := fun _ => fun
  | [d1, d2] => { results := [.lit (.bool true)], args := [d1, d2] }
  | _ => none }
def shapeFieldsRow : OpenClaim := { program := "ytnnpnljdefmmcaa", sum := "a2c0cedff9f436c86f1e1fa2ecb0268dcde95928f6eb5e59967ab0e9fe39d87e", func := "tilefarm/tilefarmlaw15.ShapeFields", spec := "shapeFields", unfollowed := true, recurses := true, apart := false }
def ShapeFieldsSaid : Prop := shapeFieldsRow.holds Try.pinned (OpenSpec.ofChange shapeFieldsSpec)

/-- ITS FALSE NEIGHBOUR: 'it returns false'. Refute it at one input. -/
def shapeFieldsWrong : ChangeSpec := { name := "shapeFields", fn := fun _ => fun
  | [d1, d2] => { results := [.lit (.bool false)], args := [d1, d2] }
  | _ => none }
def ShapeFieldsWrongFalsely : Prop := shapeFieldsRow.holds Try.pinned (OpenSpec.ofChange shapeFieldsWrong)

/- THE SECOND FORM. 'bulk': how many values and letters a reading holds, each counted each time it is reached (what is shared counts as often as it is met; a slice's spare places count too). A statement '..UptoSaid' is the law's where the arguments, and the package variables that the reading takes, are together of bulk at most 1048576: NARROWER than '..Said'. Prove '..Said' where nothing that the law and all that it calls make is longer than what came in: it says more and counts as full. Else prove '..UptoSaid'. A law counts once. -/
mutual
def uptoBulk {H : Type} : DataW H → Nat
  | .lit (.string bytes) => bytes.length + 1
  | .lit _ => 1
  | .nil => 1
  | .ptr d => uptoBulk d + 1
  | .slice elems spare => uptoBulkAll elems + uptoBulkAll spare + 1
  | .agg parts => uptoBulkAll parts + 1
  | .iface _ d => uptoBulk d + 1
  | .map entries => uptoBulkEntries entries + 1
  | .held _ => 1
def uptoBulkAll {H : Type} : List (DataW H) → Nat
  | [] => 0
  | d :: r => uptoBulk d + uptoBulkAll r
def uptoBulkEntries {H : Type} : List (Lit × DataW H) → Nat
  | [] => 0
  | x :: r => uptoBulkEntry x + uptoBulkEntries r
def uptoBulkEntry {H : Type} : Lit × DataW H → Nat
  | (.string bytes, d) => bytes.length + uptoBulk d + 1
  | (_, d) => uptoBulk d + 1
 end
def uptoSmall : (H : Type) → List (DataW H) → Bool := fun _ ds => decide (uptoBulkAll ds ≤ 1048576)
def OpenSpec.upto (s : _root_.Go.ChangeSpec) : _root_.Go.OpenSpec := { _root_.Go.OpenSpec.ofChange s with cond := some uptoSmall }

/-- 'tilefarmlaw16.FootprintNeeds', WHERE WHAT IT READS IS OF BULK AT MOST 1048576: true; the input reads as it did. -/
def footprintNeedsUptoRow : OpenClaim := { program := "ytnnpnljdefmmcaa", sum := "a2c0cedff9f436c86f1e1fa2ecb0268dcde95928f6eb5e59967ab0e9fe39d87e", func := "tilefarm/tilefarmlaw16.FootprintNeeds", spec := "footprintNeeds", unfollowed := true, recurses := true, apart := false, narrowed := true }
def FootprintNeedsUptoSaid : Prop := footprintNeedsUptoRow.holds Try.pinned (OpenSpec.upto footprintNeedsSpec)

/-- 'tilefarmlaw16.FootprintGrows', WHERE WHAT IT READS IS OF BULK AT MOST 1048576: true; the input reads as it did. -/
def footprintGrowsUptoRow : OpenClaim := { program := "ytnnpnljdefmmcaa", sum := "a2c0cedff9f436c86f1e1fa2ecb0268dcde95928f6eb5e59967ab0e9fe39d87e", func := "tilefarm/tilefarmlaw16.FootprintGrows", spec := "footprintGrows", unfollowed := true, recurses := true, apart := false, narrowed := true }
def FootprintGrowsUptoSaid : Prop := footprintGrowsUptoRow.holds Try.pinned (OpenSpec.upto footprintGrowsSpec)

/-- 'tilefarmlaw16.FootprintTiles', WHERE WHAT IT READS IS OF BULK AT MOST 1048576: true; the input reads as it did. -/
def footprintTilesUptoRow : OpenClaim := { program := "ytnnpnljdefmmcaa", sum := "a2c0cedff9f436c86f1e1fa2ecb0268dcde95928f6eb5e59967ab0e9fe39d87e", func := "tilefarm/tilefarmlaw16.FootprintTiles", spec := "footprintTiles", unfollowed := true, recurses := true, apart := false, narrowed := true }
def FootprintTilesUptoSaid : Prop := footprintTilesUptoRow.holds Try.pinned (OpenSpec.upto footprintTilesSpec)

/-- 'tilefarmlaw14.PointwisePrograms', WHERE WHAT IT READS IS OF BULK AT MOST 1048576: true; the input reads as it did. -/
def pointwiseProgramsUptoRow : OpenClaim := { program := "ytnnpnljdefmmcaa", sum := "a2c0cedff9f436c86f1e1fa2ecb0268dcde95928f6eb5e59967ab0e9fe39d87e", func := "tilefarm/tilefarmlaw14.PointwisePrograms", spec := "pointwisePrograms", apart := false, narrowed := true }
def PointwiseProgramsUptoSaid : Prop := pointwiseProgramsUptoRow.holds Try.pinned (OpenSpec.upto pointwiseProgramsSpec)

/-- 'tilefarmlaw14.PointwiseWithin', WHERE WHAT IT READS IS OF BULK AT MOST 1048576: true; the input reads as it did. -/
def pointwiseWithinUptoRow : OpenClaim := { program := "ytnnpnljdefmmcaa", sum := "a2c0cedff9f436c86f1e1fa2ecb0268dcde95928f6eb5e59967ab0e9fe39d87e", func := "tilefarm/tilefarmlaw14.PointwiseWithin", spec := "pointwiseWithin", apart := false, narrowed := true }
def PointwiseWithinUptoSaid : Prop := pointwiseWithinUptoRow.holds Try.pinned (OpenSpec.upto pointwiseWithinSpec)

/-- 'tilefarmlaw14.PointwiseJoins', WHERE WHAT IT READS IS OF BULK AT MOST 1048576: true; the input reads as it did. -/
def pointwiseJoinsUptoRow : OpenClaim := { program := "ytnnpnljdefmmcaa", sum := "a2c0cedff9f436c86f1e1fa2ecb0268dcde95928f6eb5e59967ab0e9fe39d87e", func := "tilefarm/tilefarmlaw14.PointwiseJoins", spec := "pointwiseJoins", apart := false, narrowed := true }
def PointwiseJoinsUptoSaid : Prop := pointwiseJoinsUptoRow.holds Try.pinned (OpenSpec.upto pointwiseJoinsSpec)

/-- 'tilefarmlaw14.PointwiseOrderless', WHERE WHAT IT READS IS OF BULK AT MOST 1048576: true; the input reads as it did. -/
def pointwiseOrderlessUptoRow : OpenClaim := { program := "ytnnpnljdefmmcaa", sum := "a2c0cedff9f436c86f1e1fa2ecb0268dcde95928f6eb5e59967ab0e9fe39d87e", func := "tilefarm/tilefarmlaw14.PointwiseOrderless", spec := "pointwiseOrderless", apart := false, narrowed := true }
def PointwiseOrderlessUptoSaid : Prop := pointwiseOrderlessUptoRow.holds Try.pinned (OpenSpec.upto pointwiseOrderlessSpec)

/-- 'tilefarmlaw16.FootprintRanges', WHERE WHAT IT READS IS OF BULK AT MOST 1048576: true; the input reads as it did. -/
def footprintRangesUptoRow : OpenClaim := { program := "ytnnpnljdefmmcaa", sum := "a2c0cedff9f436c86f1e1fa2ecb0268dcde95928f6eb5e59967ab0e9fe39d87e", func := "tilefarm/tilefarmlaw16.FootprintRanges", spec := "footprintRanges", unfollowed := true, recurses := true, apart := false, narrowed := true }
def FootprintRangesUptoSaid : Prop := footprintRangesUptoRow.holds Try.pinned (OpenSpec.upto footprintRangesSpec)

/-- 'tilefarmlaw14.PointwiseTiles', WHERE WHAT IT READS IS OF BULK AT MOST 1048576: true; the input reads as it did. -/
def pointwiseTilesUptoRow : OpenClaim := { program := "ytnnpnljdefmmcaa", sum := "a2c0cedff9f436c86f1e1fa2ecb0268dcde95928f6eb5e59967ab0e9fe39d87e", func := "tilefarm/tilefarmlaw14.PointwiseTiles", spec := "pointwiseTiles", apart := false, narrowed := true }
def PointwiseTilesUptoSaid : Prop := pointwiseTilesUptoRow.holds Try.pinned (OpenSpec.upto pointwiseTilesSpec)

/-- 'tilefarmlaw15.ShapeChecks', WHERE WHAT IT READS IS OF BULK AT MOST 1048576: true; the input reads as it did. -/
def shapeChecksUptoRow : OpenClaim := { program := "ytnnpnljdefmmcaa", sum := "a2c0cedff9f436c86f1e1fa2ecb0268dcde95928f6eb5e59967ab0e9fe39d87e", func := "tilefarm/tilefarmlaw15.ShapeChecks", spec := "shapeChecks", unfollowed := true, recurses := true, apart := false, narrowed := true }
def ShapeChecksUptoSaid : Prop := shapeChecksUptoRow.holds Try.pinned (OpenSpec.upto shapeChecksSpec)

/-- 'tilefarmlaw15.ShapeFields', WHERE WHAT IT READS IS OF BULK AT MOST 1048576: true; the input reads as it did. -/
def shapeFieldsUptoRow : OpenClaim := { program := "ytnnpnljdefmmcaa", sum := "a2c0cedff9f436c86f1e1fa2ecb0268dcde95928f6eb5e59967ab0e9fe39d87e", func := "tilefarm/tilefarmlaw15.ShapeFields", spec := "shapeFields", unfollowed := true, recurses := true, apart := false, narrowed := true }
def ShapeFieldsUptoSaid : Prop := shapeFieldsUptoRow.holds Try.pinned (OpenSpec.upto shapeFieldsSpec)

end Rows
end Go.Proofs.Ytnnpnljdefmmcaa
