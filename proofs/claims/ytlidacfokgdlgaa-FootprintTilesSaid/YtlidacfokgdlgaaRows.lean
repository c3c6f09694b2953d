/-
  No cell of these rows narrows 'for every input' (looked for: loops, veiled, ifaces, maps, wideKeys, modest, calm, conditions, laid).
  DERIVED. THE GIVEN ROWS OF THIS SEAT. 4 by the template 'for every input the law returns true; each argument reads behind the call as it read before'; 0 by the template 'total and deterministic' (their statements: YtlidacfokgdlgaaTotals.lean).
  GIVEN WITH THE SEED: the statements are not yours to turn. If you find one false, say at which input.
  Laid BY PROGRAM, IN A SANDBOX (cutbox-rows.mjs): the forced cells as the released guide's own fill.sh prints them over the translation de4ff41d3a8ba741… (all of the seat's roots in one cut). By AI agents, Wed Nov 11 2026. No macro, syntax, notation, axiom, sorry.
-/
import Derived.Test.YtlidacfokgdlgaaChecked
import GoSem.Claim
import GoSem.ClaimJoined
import GoSem.ClaimMapViews
import Derived.JoinedTies
import Derived.KernelRfl
namespace Go.Proofs.Ytlidacfokgdlgaa
/- THE CELL 'sum', in the pinned program and in every row, IS THE sha256 OF THE DUMP (.gsa) THAT YtlidacfokgdlgaaProg.lean LOADS. Nothing in Lean hashes anything: it is a label: what it is worth is what the hold of that sum in a sandbox is worth. -/
noncomputable def Try.pinned : Pinned := { name := "ytlidacfokgdlgaa", sum := "de4ff41d3a8ba741fba7b43c977ea81b0445980dba041308fe013e932b364c96", checked := Try.checked }
namespace Rows
def none {H : Type} : Left H := { results := [], args := [] }

/-- 'tilefarmlaw16.FootprintNeeds': WHATEVER THE INPUT: true; the input reads as it did. -/
def footprintNeedsSpec : ChangeSpec := { name := "footprintNeeds", fn := fun _ => fun
  | [d1, d2, d3, d4, d5] => { results := [.lit (.bool true)], args := [d1, d2, d3, d4, d5] }
  | _ => none }
def footprintNeedsRow : OpenClaim := { program := "ytlidacfokgdlgaa", sum := "de4ff41d3a8ba741fba7b43c977ea81b0445980dba041308fe013e932b364c96", func := "tilefarm/tilefarmlaw16.FootprintNeeds", spec := "footprintNeeds", unfollowed := true, recurses := true, apart := false }
def FootprintNeedsSaid : Prop := footprintNeedsRow.holds Try.pinned (OpenSpec.ofChange footprintNeedsSpec)

/-- ITS FALSE NEIGHBOUR: 'it returns false'. Refute it at one input. -/
def footprintNeedsWrong : ChangeSpec := { name := "footprintNeeds", fn := fun _ => fun
  | [d1, d2, d3, d4, d5] => { results := [.lit (.bool false)], args := [d1, d2, d3, d4, d5] }
  | _ => none }
def FootprintNeedsWrongFalsely : Prop := footprintNeedsRow.holds Try.pinned (OpenSpec.ofChange footprintNeedsWrong)

/-- 'tilefarmlaw16.FootprintGrows': WHATEVER THE INPUT: true; the input reads as it did. -/
def footprintGrowsSpec : ChangeSpec := { name := "footprintGrows", fn := fun _ => fun
  | [d1, d2] => { results := [.lit (.bool true)], args := [d1, d2] }
  | _ => none }
def footprintGrowsRow : OpenClaim := { program := "ytlidacfokgdlgaa", sum := "de4ff41d3a8ba741fba7b43c977ea81b0445980dba041308fe013e932b364c96", func := "tilefarm/tilefarmlaw16.FootprintGrows", spec := "footprintGrows", unfollowed := true, recurses := true, apart := false }
def FootprintGrowsSaid : Prop := footprintGrowsRow.holds Try.pinned (OpenSpec.ofChange footprintGrowsSpec)

/-- ITS FALSE NEIGHBOUR: 'it returns false'. Refute it at one input. -/
def footprintGrowsWrong : ChangeSpec := { name := "footprintGrows", fn := fun _ => fun
  | [d1, d2] => { results := [.lit (.bool false)], args := [d1, d2] }
  | _ => none }
def FootprintGrowsWrongFalsely : Prop := footprintGrowsRow.holds Try.pinned (OpenSpec.ofChange footprintGrowsWrong)

/-- 'tilefarmlaw16.FootprintTiles': WHATEVER THE INPUT: true; the input reads as it did. -/
def footprintTilesSpec : ChangeSpec := { name := "footprintTiles", fn := fun _ => fun
  | [d1, d2] => { results := [.lit (.bool true)], args := [d1, d2] }
  | _ => none }
def footprintTilesRow : OpenClaim := { program := "ytlidacfokgdlgaa", sum := "de4ff41d3a8ba741fba7b43c977ea81b0445980dba041308fe013e932b364c96", func := "tilefarm/tilefarmlaw16.FootprintTiles", spec := "footprintTiles", unfollowed := true, recurses := true, apart := false }
def FootprintTilesSaid : Prop := footprintTilesRow.holds Try.pinned (OpenSpec.ofChange footprintTilesSpec)

/-- ITS FALSE NEIGHBOUR: 'it returns false'. Refute it at one input. -/
def footprintTilesWrong : ChangeSpec := { name := "footprintTiles", fn := fun _ => fun
  | [d1, d2] => { results := [.lit (.bool false)], args := [d1, d2] }
  | _ => none }
def FootprintTilesWrongFalsely : Prop := footprintTilesRow.holds Try.pinned (OpenSpec.ofChange footprintTilesWrong)

/-- 'tilefarmlaw16.FootprintRanges': WHATEVER THE INPUT: true; the input reads as it did. -/
def footprintRangesSpec : ChangeSpec := { name := "footprintRanges", fn := fun _ => fun
  | [d1, d2] => { results := [.lit (.bool true)], args := [d1, d2] }
  | _ => none }
def footprintRangesRow : OpenClaim := { program := "ytlidacfokgdlgaa", sum := "de4ff41d3a8ba741fba7b43c977ea81b0445980dba041308fe013e932b364c96", func := "tilefarm/tilefarmlaw16.FootprintRanges", spec := "footprintRanges", unfollowed := true, recurses := true, apart := false }
def FootprintRangesSaid : Prop := footprintRangesRow.holds Try.pinned (OpenSpec.ofChange footprintRangesSpec)

/-- ITS FALSE NEIGHBOUR: 'it returns false'. Refute it at one input. -/
def footprintRangesWrong : ChangeSpec := { name := "footprintRanges", fn := fun _ => fun
  | [d1, d2] => { results := [.lit (.bool false)], args := [d1, d2] }
  | _ => none }
def FootprintRangesWrongFalsely : Prop := footprintRangesRow.holds Try.pinned (OpenSpec.ofChange footprintRangesWrong)

/- THE SECOND FORM. 'bulk': how many values and letters a reading holds, each counted each time it is reached (what is shared counts as often as it is met; a slice's spare places count too). A statement '..UptoSaid' is the law's where the arguments, and the package variables that the reading takes, are together of bulk at most 1048576: NARROWER than '..Said'. Prove '..Said' where nothing that the law and all that it calls make is longer than what came in: it says more and counts as full. Else prove '..UptoSaid'. A law counts once. -/
mutual
def uptoBulk {H : Type} : DataW H → Nat
  | .lit (.string bytes) => bytes.length + 1
  | .lit _ => 1
  | .nil => 1
  | .ptr d => uptoBulk d + 1
  | .slice elems spare => uptoBulkAll elems + uptoBulkAll spare + 1
  | .agg parts => uptoBulkAll parts + 1
  | .iface _ d => uptoBulk d + 1
  | .map entries => uptoBulkEntries entries + 1
  | .held _ => 1
def uptoBulkAll {H : Type} : List (DataW H) → Nat
  | [] => 0
  | d :: r => uptoBulk d + uptoBulkAll r
def uptoBulkEntries {H : Type} : List (Lit × DataW H) → Nat
  | [] => 0
  | x :: r => uptoBulkEntry x + uptoBulkEntries r
def uptoBulkEntry {H : Type} : Lit × DataW H → Nat
  | (.string bytes, d) => bytes.length + uptoBulk d + 1
  | (_, d) => uptoBulk d + 1
 end
def uptoSmall : (H : Type) → List (DataW H) → Bool := fun _ ds => decide (uptoBulkAll ds ≤ 1048576)
def OpenSpec.upto (s : _root_.Go.ChangeSpec) : _root_.Go.OpenSpec := { _root_.Go.OpenSpec.ofChange s with cond := some uptoSmall }

/-- 'tilefarmlaw16.FootprintNeeds', WHERE WHAT IT READS IS OF BULK AT MOST 1048576: true; the input reads as it did. -/
def footprintNeedsUptoRow : OpenClaim := { program := "ytlidacfokgdlgaa", sum := "de4ff41d3a8ba741fba7b43c977ea81b0445980dba041308fe013e932b364c96", func := "tilefarm/tilefarmlaw16.FootprintNeeds", spec := "footprintNeeds", unfollowed := true, recurses := true, apart := false, narrowed := true }
def FootprintNeedsUptoSaid : Prop := footprintNeedsUptoRow.holds Try.pinned (OpenSpec.upto footprintNeedsSpec)

/-- 'tilefarmlaw16.FootprintGrows', WHERE WHAT IT READS IS OF BULK AT MOST 1048576: true; the input reads as it did. -/
def footprintGrowsUptoRow : OpenClaim := { program := "ytlidacfokgdlgaa", sum := "de4ff41d3a8ba741fba7b43c977ea81b0445980dba041308fe013e932b364c96", func := "tilefarm/tilefarmlaw16.FootprintGrows", spec := "footprintGrows", unfollowed := true, recurses := true, apart := false, narrowed := true }
def FootprintGrowsUptoSaid : Prop := footprintGrowsUptoRow.holds Try.pinned (OpenSpec.upto footprintGrowsSpec)

/-- 'tilefarmlaw16.FootprintTiles', WHERE WHAT IT READS IS OF BULK AT MOST 1048576: true; the input reads as it did. -/
def footprintTilesUptoRow : OpenClaim := { program := "ytlidacfokgdlgaa", sum := "de4ff41d3a8ba741fba7b43c977ea81b0445980dba041308fe013e932b364c96", func := "tilefarm/tilefarmlaw16.FootprintTiles", spec := "footprintTiles", unfollowed := true, recurses := true, apart := false, narrowed := true }
def FootprintTilesUptoSaid : Prop := footprintTilesUptoRow.holds Try.pinned (OpenSpec.upto footprintTilesSpec)

/-- 'tilefarmlaw16.FootprintRanges', WHERE WHAT IT READS IS OF BULK AT MOST 1048576: true; the input reads as it did. -/
def footprintRangesUptoRow : OpenClaim := { program := "ytlidacfokgdlgaa", sum := "de4ff41d3a8ba741fba7b43c977ea81b0445980dba041308fe013e932b364c96", func := "tilefarm/tilefarmlaw16.FootprintRanges", spec := "footprintRanges", unfollowed := true, recurses := true, apart := false, narrowed := true }
def FootprintRangesUptoSaid : Prop := footprintRangesUptoRow.holds Try.pinned (OpenSpec.upto footprintRangesSpec)

end Rows
end Go.Proofs.Ytlidacfokgdlgaa
