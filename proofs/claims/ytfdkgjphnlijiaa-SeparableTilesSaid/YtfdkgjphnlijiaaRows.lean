/-
  No cell of these rows narrows 'for every input' (looked for: loops, veiled, ifaces, maps, wideKeys, modest, calm, conditions, laid).
  DERIVED. THE GIVEN ROWS OF THIS SEAT. 5 by the template 'for every input the law returns true; each argument reads behind the call as it read before'; 0 by the template 'total and deterministic' (their statements: YtfdkgjphnlijiaaTotals.lean).
  GIVEN WITH THE SEED: the statements are not yours to turn. If you find one false, say at which input.
  Laid BY PROGRAM, IN A SANDBOX (cutbox-rows.mjs): the forced cells as the released guide's own fill.sh prints them over the translation e30e82d8a09a5b6d… (all of the seat's roots in one cut). By AI agents, Wed Nov 11 2026. No macro, syntax, notation, axiom, sorry.
-/
import Derived.Test.YtfdkgjphnlijiaaChecked
import GoSem.Claim
import GoSem.ClaimJoined
import GoSem.ClaimMapViews
import Derived.JoinedTies
import Derived.KernelRfl
namespace Go.Proofs.Ytfdkgjphnlijiaa
/- THE CELL 'sum', in the pinned program and in every row, IS THE sha256 OF THE DUMP (.gsa) THAT YtfdkgjphnlijiaaProg.lean LOADS. Nothing in Lean hashes anything: it is a label: what it is worth is what the hold of that sum in a sandbox is worth. -/
noncomputable def Try.pinned : Pinned := { name := "ytfdkgjphnlijiaa", sum := "e30e82d8a09a5b6d6d78596f6867643589f88d7e80cab61d784543a678718abe", checked := Try.checked }
namespace Rows
def none {H : Type} : Left H := { results := [], args := [] }

/-- 'tilefarmlaw10.SeparableChecks': WHATEVER THE INPUT: true; the input reads as it did. -/
def separableChecksSpec : ChangeSpec := { name := "separableChecks", fn := fun _ => fun
  | [d1, d2, d3, d4, d5, d6, d7] => { results := [.lit (.bool true)], args := [d1, d2, d3, d4, d5, d6, d7] }
  | _ => none }
def separableChecksRow : OpenClaim := { program := "ytfdkgjphnlijiaa", sum := "e30e82d8a09a5b6d6d78596f6867643589f88d7e80cab61d784543a678718abe", func := "tilefarm/tilefarmlaw10.SeparableChecks", spec := "separableChecks", apart := false }
def SeparableChecksSaid : Prop := separableChecksRow.holds Try.pinned (OpenSpec.ofChange separableChecksSpec)

/-- ITS FALSE NEIGHBOUR: 'it returns false'. Refute it at one input. -/
def separableChecksWrong : ChangeSpec := { name := "separableChecks", fn := fun _ => fun
  | [d1, d2, d3, d4, d5, d6, d7] => { results := [.lit (.bool false)], args := [d1, d2, d3, d4, d5, d6, d7] }
  | _ => none }
def SeparableChecksWrongFalsely : Prop := separableChecksRow.holds Try.pinned (OpenSpec.ofChange separableChecksWrong)

/-- 'tilefarmlaw10.SeparableTiles': WHATEVER THE INPUT: true; the input reads as it did. -/
def separableTilesSpec : ChangeSpec := { name := "separableTiles", fn := fun _ => fun
  | [d1, d2] => { results := [.lit (.bool true)], args := [d1, d2] }
  | _ => none }
def separableTilesRow : OpenClaim := { program := "ytfdkgjphnlijiaa", sum := "e30e82d8a09a5b6d6d78596f6867643589f88d7e80cab61d784543a678718abe", func := "tilefarm/tilefarmlaw10.SeparableTiles", spec := "separableTiles", apart := false }
def SeparableTilesSaid : Prop := separableTilesRow.holds Try.pinned (OpenSpec.ofChange separableTilesSpec)

/-- ITS FALSE NEIGHBOUR: 'it returns false'. Refute it at one input. -/
def separableTilesWrong : ChangeSpec := { name := "separableTiles", fn := fun _ => fun
  | [d1, d2] => { results := [.lit (.bool false)], args := [d1, d2] }
  | _ => none }
def SeparableTilesWrongFalsely : Prop := separableTilesRow.holds Try.pinned (OpenSpec.ofChange separableTilesWrong)

/-- 'tilefarmlaw10.SeparableCrops': WHATEVER THE INPUT: true; the input reads as it did. -/
def separableCropsSpec : ChangeSpec := { name := "separableCrops", fn := fun _ => fun
  | [d] => { results := [.lit (.bool true)], args := [d] }
  | _ => none }
def separableCropsRow : OpenClaim := { program := "ytfdkgjphnlijiaa", sum := "e30e82d8a09a5b6d6d78596f6867643589f88d7e80cab61d784543a678718abe", func := "tilefarm/tilefarmlaw10.SeparableCrops", spec := "separableCrops", apart := false }
def SeparableCropsSaid : Prop := separableCropsRow.holds Try.pinned (OpenSpec.ofChange separableCropsSpec)

/-- ITS FALSE NEIGHBOUR: 'it returns false'. Refute it at one input. -/
def separableCropsWrong : ChangeSpec := { name := "separableCrops", fn := fun _ => fun
  | [d] => { results := [.lit (.bool false)], args := [d] }
  | _ => none }
def SeparableCropsWrongFalsely : Prop := separableCropsRow.holds Try.pinned (OpenSpec.ofChange separableCropsWrong)

/-- 'tilefarmlaw10.SeparableTurns': WHATEVER THE INPUT: true; the input reads as it did. -/
def separableTurnsSpec : ChangeSpec := { name := "separableTurns", fn := fun _ => fun
  | [d] => { results := [.lit (.bool true)], args := [d] }
  | _ => none }
def separableTurnsRow : OpenClaim := { program := "ytfdkgjphnlijiaa", sum := "e30e82d8a09a5b6d6d78596f6867643589f88d7e80cab61d784543a678718abe", func := "tilefarm/tilefarmlaw10.SeparableTurns", spec := "separableTurns", apart := false }
def SeparableTurnsSaid : Prop := separableTurnsRow.holds Try.pinned (OpenSpec.ofChange separableTurnsSpec)

/-- ITS FALSE NEIGHBOUR: 'it returns false'. Refute it at one input. -/
def separableTurnsWrong : ChangeSpec := { name := "separableTurns", fn := fun _ => fun
  | [d] => { results := [.lit (.bool false)], args := [d] }
  | _ => none }
def SeparableTurnsWrongFalsely : Prop := separableTurnsRow.holds Try.pinned (OpenSpec.ofChange separableTurnsWrong)

/-- 'tilefarmlaw10.SeparableDense': WHATEVER THE INPUT: true; the input reads as it did. -/
def separableDenseSpec : ChangeSpec := { name := "separableDense", fn := fun _ => fun
  | [d] => { results := [.lit (.bool true)], args := [d] }
  | _ => none }
def separableDenseRow : OpenClaim := { program := "ytfdkgjphnlijiaa", sum := "e30e82d8a09a5b6d6d78596f6867643589f88d7e80cab61d784543a678718abe", func := "tilefarm/tilefarmlaw10.SeparableDense", spec := "separableDense", apart := false }
def SeparableDenseSaid : Prop := separableDenseRow.holds Try.pinned (OpenSpec.ofChange separableDenseSpec)

/-- ITS FALSE NEIGHBOUR: 'it returns false'. Refute it at one input. -/
def separableDenseWrong : ChangeSpec := { name := "separableDense", fn := fun _ => fun
  | [d] => { results := [.lit (.bool false)], args := [d] }
  | _ => none }
def SeparableDenseWrongFalsely : Prop := separableDenseRow.holds Try.pinned (OpenSpec.ofChange separableDenseWrong)

/- THE SECOND FORM. 'bulk': how many values and letters a reading holds, each counted each time it is reached (what is shared counts as often as it is met; a slice's spare places count too). A statement '..UptoSaid' is the law's where the arguments, and the package variables that the reading takes, are together of bulk at most 1048576: NARROWER than '..Said'. Prove '..Said' where nothing that the law and all that it calls make is longer than what came in: it says more and counts as full. Else prove '..UptoSaid'. A law counts once. -/
mutual
def uptoBulk {H : Type} : DataW H → Nat
  | .lit (.string bytes) => bytes.length + 1
  | .lit _ => 1
  | .nil => 1
  | .ptr d => uptoBulk d + 1
  | .slice elems spare => uptoBulkAll elems + uptoBulkAll spare + 1
  | .agg parts => uptoBulkAll parts + 1
  | .iface _ d => uptoBulk d + 1
  | .map entries => uptoBulkEntries entries + 1
  | .held _ => 1
def uptoBulkAll {H : Type} : List (DataW H) → Nat
  | [] => 0
  | d :: r => uptoBulk d + uptoBulkAll r
def uptoBulkEntries {H : Type} : List (Lit × DataW H) → Nat
  | [] => 0
  | x :: r => uptoBulkEntry x + uptoBulkEntries r
def uptoBulkEntry {H : Type} : Lit × DataW H → Nat
  | (.string bytes, d) => bytes.length + uptoBulk d + 1
  | (_, d) => uptoBulk d + 1
 end
def uptoSmall : (H : Type) → List (DataW H) → Bool := fun _ ds => decide (uptoBulkAll ds ≤ 1048576)
def OpenSpec.upto (s : _root_.Go.ChangeSpec) : _root_.Go.OpenSpec := { _root_.Go.OpenSpec.ofChange s with cond := some uptoSmall }

/-- 'tilefarmlaw10.SeparableChecks', WHERE WHAT IT READS IS OF BULK AT MOST 1048576: true; the input reads as it did. -/
def separableChecksUptoRow : OpenClaim := { program := "ytfdkgjphnlijiaa", sum := "e30e82d8a09a5b6d6d78596f6867643589f88d7e80cab61d784543a678718abe", func := "tilefarm/tilefarmlaw10.SeparableChecks", spec := "separableChecks", apart := false, narrowed := true }
def SeparableChecksUptoSaid : Prop := separableChecksUptoRow.holds Try.pinned (OpenSpec.upto separableChecksSpec)

/-- 'tilefarmlaw10.SeparableTiles', WHERE WHAT IT READS IS OF BULK AT MOST 1048576: true; the input reads as it did. -/
def separableTilesUptoRow : OpenClaim := { program := "ytfdkgjphnlijiaa", sum := "e30e82d8a09a5b6d6d78596f6867643589f88d7e80cab61d784543a678718abe", func := "tilefarm/tilefarmlaw10.SeparableTiles", spec := "separableTiles", apart := false, narrowed := true }
def SeparableTilesUptoSaid : Prop := separableTilesUptoRow.holds Try.pinned (OpenSpec.upto separableTilesSpec)

/-- 'tilefarmlaw10.SeparableCrops', WHERE WHAT IT READS IS OF BULK AT MOST 1048576: true; the input reads as it did. -/
def separableCropsUptoRow : OpenClaim := { program := "ytfdkgjphnlijiaa", sum := "e30e82d8a09a5b6d6d78596f6867643589f88d7e80cab61d784543a678718abe", func := "tilefarm/tilefarmlaw10.SeparableCrops", spec := "separableCrops", apart := false, narrowed := true }
def SeparableCropsUptoSaid : Prop := separableCropsUptoRow.holds Try.pinned (OpenSpec.upto separableCropsSpec)

/-- 'tilefarmlaw10.SeparableTurns', WHERE WHAT IT READS IS OF BULK AT MOST 1048576: true; the input reads as it did. -/
def separableTurnsUptoRow : OpenClaim := { program := "ytfdkgjphnlijiaa", sum := "e30e82d8a09a5b6d6d78596f6867643589f88d7e80cab61d784543a678718abe", func := "tilefarm/tilefarmlaw10.SeparableTurns", spec := "separableTurns", apart := false, narrowed := true }
def SeparableTurnsUptoSaid : Prop := separableTurnsUptoRow.holds Try.pinned (OpenSpec.upto separableTurnsSpec)

/-- 'tilefarmlaw10.SeparableDense', WHERE WHAT IT READS IS OF BULK AT MOST 1048576: true; the input reads as it did. -/
def separableDenseUptoRow : OpenClaim := { program := "ytfdkgjphnlijiaa", sum := "e30e82d8a09a5b6d6d78596f6867643589f88d7e80cab61d784543a678718abe", func := "tilefarm/tilefarmlaw10.SeparableDense", spec := "separableDense", apart := false, narrowed := true }
def SeparableDenseUptoSaid : Prop := separableDenseUptoRow.holds Try.pinned (OpenSpec.upto separableDenseSpec)

end Rows
end Go.Proofs.Ytfdkgjphnlijiaa
