/-
  No cell of these rows narrows 'for every input' (looked for: loops, veiled, ifaces, maps, wideKeys, modest, calm, conditions, laid).
  DERIVED. THE GIVEN ROWS OF THIS SEAT. 4 by the template 'for every input the law returns true; each argument reads behind the call as it read before'; 0 by the template 'total and deterministic' (their statements: YtaefdkinpaonkaaTotals.lean).
  GIVEN WITH THE SEED: the statements are not yours to turn. If you find one false, say at which input.
  Laid BY PROGRAM, IN A SANDBOX (cutbox-rows.mjs): the forced cells as the released guide's own fill.sh prints them over the translation 177bff07678579a5… (all of the seat's roots in one cut). By AI agents, Wed Nov 11 2026. No macro, syntax, notation, axiom, sorry.
-/
import Derived.Test.YtaefdkinpaonkaaChecked
import GoSem.Claim
import GoSem.ClaimJoined
import GoSem.ClaimMapViews
import Derived.JoinedTies
import Derived.KernelRfl
namespace Go.Proofs.Ytaefdkinpaonkaa
/- THE CELL 'sum', in the pinned program and in every row, IS THE sha256 OF THE DUMP (.gsa) THAT YtaefdkinpaonkaaProg.lean LOADS. Nothing in Lean hashes anything: it is a label: what it is worth is what the hold of that sum in a sandbox is worth. -/
noncomputable def Try.pinned : Pinned := { name := "ytaefdkinpaonkaa", sum := "177bff07678579a5ab40bd2b033caed2b4a39307ccc9970e6b8ee703b54956aa", checked := Try.checked }
namespace Rows
def none {H : Type} : Left H := { results := [], args := [] }

/-- 'tilefarmlaw11.ResizeChecks': WHATEVER THE INPUT: true; the input reads as it did. -/
def resizeChecksSpec : ChangeSpec := { name := "resizeChecks", fn := fun _ => fun
  | [d1, d2, d3, d4, d5, d6, d7] => { results := [.lit (.bool true)], args := [d1, d2, d3, d4, d5, d6, d7] }
  | _ => none }
def resizeChecksRow : OpenClaim := { program := "ytaefdkinpaonkaa", sum := "177bff07678579a5ab40bd2b033caed2b4a39307ccc9970e6b8ee703b54956aa", func := "tilefarm/tilefarmlaw11.ResizeChecks", spec := "resizeChecks", unfollowed := true, recurses := true, apart := false }
def ResizeChecksSaid : Prop := resizeChecksRow.holds Try.pinned (OpenSpec.ofChange resizeChecksSpec)

/-- ITS FALSE NEIGHBOUR: 'it returns false'. Refute it at one input. -/
def resizeChecksWrong : ChangeSpec := { name := "resizeChecks", fn := fun _ => fun
  | [d1, d2, d3, d4, d5, d6, d7] => { results := [.lit (.bool false)], args := [d1, d2, d3, d4, d5, d6, d7] }
  | _ => none }
def ResizeChecksWrongFalsely : Prop := resizeChecksRow.holds Try.pinned (OpenSpec.ofChange resizeChecksWrong)

/-- 'tilefarmlaw11.ResizeTiles': WHATEVER THE INPUT: true; the input reads as it did. -/
def resizeTilesSpec : ChangeSpec := { name := "resizeTiles", fn := fun _ => fun
  | [d1, d2] => { results := [.lit (.bool true)], args := [d1, d2] }
  | _ => none }
def resizeTilesRow : OpenClaim := { program := "ytaefdkinpaonkaa", sum := "177bff07678579a5ab40bd2b033caed2b4a39307ccc9970e6b8ee703b54956aa", func := "tilefarm/tilefarmlaw11.ResizeTiles", spec := "resizeTiles", unfollowed := true, recurses := true, apart := false }
def ResizeTilesSaid : Prop := resizeTilesRow.holds Try.pinned (OpenSpec.ofChange resizeTilesSpec)

/-- ITS FALSE NEIGHBOUR: 'it returns false'. Refute it at one input. -/
def resizeTilesWrong : ChangeSpec := { name := "resizeTiles", fn := fun _ => fun
  | [d1, d2] => { results := [.lit (.bool false)], args := [d1, d2] }
  | _ => none }
def ResizeTilesWrongFalsely : Prop := resizeTilesRow.holds Try.pinned (OpenSpec.ofChange resizeTilesWrong)

/-- 'tilefarmlaw11.ResizeCrops': WHATEVER THE INPUT: true; the input reads as it did. -/
def resizeCropsSpec : ChangeSpec := { name := "resizeCrops", fn := fun _ => fun
  | [d] => { results := [.lit (.bool true)], args := [d] }
  | _ => none }
def resizeCropsRow : OpenClaim := { program := "ytaefdkinpaonkaa", sum := "177bff07678579a5ab40bd2b033caed2b4a39307ccc9970e6b8ee703b54956aa", func := "tilefarm/tilefarmlaw11.ResizeCrops", spec := "resizeCrops", unfollowed := true, recurses := true, apart := false }
def ResizeCropsSaid : Prop := resizeCropsRow.holds Try.pinned (OpenSpec.ofChange resizeCropsSpec)

/-- ITS FALSE NEIGHBOUR: 'it returns false'. Refute it at one input. -/
def resizeCropsWrong : ChangeSpec := { name := "resizeCrops", fn := fun _ => fun
  | [d] => { results := [.lit (.bool false)], args := [d] }
  | _ => none }
def ResizeCropsWrongFalsely : Prop := resizeCropsRow.holds Try.pinned (OpenSpec.ofChange resizeCropsWrong)

/-- 'tilefarmlaw11.ResizeMeans': WHATEVER THE INPUT: true; the input reads as it did. -/
def resizeMeansSpec : ChangeSpec := { name := "resizeMeans", fn := fun _ => fun
  | [d] => { results := [.lit (.bool true)], args := [d] }
  | _ => none }
def resizeMeansRow : OpenClaim := { program := "ytaefdkinpaonkaa", sum := "177bff07678579a5ab40bd2b033caed2b4a39307ccc9970e6b8ee703b54956aa", func := "tilefarm/tilefarmlaw11.ResizeMeans", spec := "resizeMeans", unfollowed := true, recurses := true, apart := false }
def ResizeMeansSaid : Prop := resizeMeansRow.holds Try.pinned (OpenSpec.ofChange resizeMeansSpec)

/-- ITS FALSE NEIGHBOUR: 'it returns false'. Refute it at one input. -/
def resizeMeansWrong : ChangeSpec := { name := "resizeMeans", fn := fun _ => fun
  | [d] => { results := [.lit (.bool false)], args := [d] }
  | _ => none }
def ResizeMeansWrongFalsely : Prop := resizeMeansRow.holds Try.pinned (OpenSpec.ofChange resizeMeansWrong)

/- THE SECOND FORM. 'bulk': how many values and letters a reading holds, each counted each time it is reached (what is shared counts as often as it is met; a slice's spare places count too). A statement '..UptoSaid' is the law's where the arguments, and the package variables that the reading takes, are together of bulk at most 1048576: NARROWER than '..Said'. Prove '..Said' where nothing that the law and all that it calls make is longer than what came in: it says more and counts as full. Else prove '..UptoSaid'. A law counts once. -/
mutual
def uptoBulk {H : Type} : DataW H → Nat
  | .lit (.string bytes) => bytes.length + 1
  | .lit _ => 1
  | .nil => 1
  | .ptr d => uptoBulk d + 1
  | .slice elems spare => uptoBulkAll elems + uptoBulkAll spare + 1
  | .agg parts => uptoBulkAll parts + 1
  | .iface _ d => uptoBulk d + 1
  | .map entries => uptoBulkEntries entries + 1
  | .held _ => 1
def uptoBulkAll {H : Type} : List (DataW H) → Nat
  | [] => 0
  | d :: r => uptoBulk d + uptoBulkAll r
def uptoBulkEntries {H : Type} : List (Lit × DataW H) → Nat
  | [] => 0
  | x :: r => uptoBulkEntry x + uptoBulkEntries r
def uptoBulkEntry {H : Type} : Lit × DataW H → Nat
  | (.string bytes, d) => bytes.length + uptoBulk d + 1
  | (_, d) => uptoBulk d + 1
 end
def uptoSmall : (H : Type) → List (DataW H) → Bool := fun _ ds => decide (uptoBulkAll ds ≤ 1048576)
def OpenSpec.upto (s : _root_.Go.ChangeSpec) : _root_.Go.OpenSpec := { _root_.Go.OpenSpec.ofChange s with cond := some uptoSmall }

/-- 'tilefarmlaw11.ResizeChecks', WHERE WHAT IT READS IS OF BULK AT MOST 1048576: true; the input reads as it did. -/
def resizeChecksUptoRow : OpenClaim := { program := "ytaefdkinpaonkaa", sum := "177bff07678579a5ab40bd2b033caed2b4a39307ccc9970e6b8ee703b54956aa", func := "tilefarm/tilefarmlaw11.ResizeChecks", spec := "resizeChecks", unfollowed := true, recurses := true, apart := false, narrowed := true }
def ResizeChecksUptoSaid : Prop := resizeChecksUptoRow.holds Try.pinned (OpenSpec.upto resizeChecksSpec)

/-- 'tilefarmlaw11.ResizeTiles', WHERE WHAT IT READS IS OF BULK AT MOST 1048576: true; the input reads as it did. -/
def resizeTilesUptoRow : OpenClaim := { program := "ytaefdkinpaonkaa", sum := "177bff07678579a5ab40bd2b033caed2b4a39307ccc9970e6b8ee703b54956aa", func := "tilefarm/tilefarmlaw11.ResizeTiles", spec := "resizeTiles", unfollowed := true, recurses := true, apart := false, narrowed := true }
def ResizeTilesUptoSaid : Prop := resizeTilesUptoRow.holds Try.pinned (OpenSpec.upto resizeTilesSpec)

/-- 'tilefarmlaw11.ResizeCrops', WHERE WHAT IT READS IS OF BULK AT MOST 1048576: true; the input reads as it did. -/
def resizeCropsUptoRow : OpenClaim := { program := "ytaefdkinpaonkaa", sum := "177bff07678579a5ab40bd2b033caed2b4a39307ccc9970e6b8ee703b54956aa", func := "tilefarm/tilefarmlaw11.ResizeCrops", spec := "resizeCrops", unfollowed := true, recurses := true, apart := false, narrowed := true }
def ResizeCropsUptoSaid : Prop := resizeCropsUptoRow.holds Try.pinned (OpenSpec.upto resizeCropsSpec)

/-- 'tilefarmlaw11.ResizeMeans', WHERE WHAT IT READS IS OF BULK AT MOST 1048576: true; the input reads as it did. -/
def resizeMeansUptoRow : OpenClaim := { program := "ytaefdkinpaonkaa", sum := "177bff07678579a5ab40bd2b033caed2b4a39307ccc9970e6b8ee703b54956aa", func := "tilefarm/tilefarmlaw11.ResizeMeans", spec := "resizeMeans", unfollowed := true, recurses := true, apart := false, narrowed := true }
def ResizeMeansUptoSaid : Prop := resizeMeansUptoRow.holds Try.pinned (OpenSpec.upto resizeMeansSpec)

end Rows
end Go.Proofs.Ytaefdkinpaonkaa
