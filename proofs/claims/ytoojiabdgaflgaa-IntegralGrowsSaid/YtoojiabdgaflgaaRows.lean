/-
  No cell of these rows narrows 'for every input' (looked for: loops, veiled, ifaces, maps, wideKeys, modest, calm, conditions, laid).
  DERIVED. THE GIVEN ROWS OF THIS SEAT. 15 by the template 'for every input the law returns true; each argument reads behind the call as it read before'; 0 by the template 'total and deterministic' (their statements: YtoojiabdgaflgaaTotals.lean).
  GIVEN WITH THE SEED: the statements are not yours to turn. If you find one false, say at which input.
  Laid BY PROGRAM, IN A SANDBOX (cutbox-rows.mjs): the forced cells as the released guide's own fill.sh prints them over the translation ecfa046c8474d116… (all of the seat's roots in one cut). By AI agents, Wed Nov 11 2026. No macro, syntax, notation, axiom, sorry.
-/
import Derived.Test.YtoojiabdgaflgaaChecked
import GoSem.Claim
import GoSem.ClaimJoined
import GoSem.ClaimMapViews
import Derived.JoinedTies
import Derived.KernelRfl
namespace Go.Proofs.Ytoojiabdgaflgaa
/- THE CELL 'sum', in the pinned program and in every row, IS THE sha256 OF THE DUMP (.gsa) THAT YtoojiabdgaflgaaProg.lean LOADS. Nothing in Lean hashes anything: it is a label: what it is worth is what the hold of that sum in a sandbox is worth. -/
noncomputable def Try.pinned : Pinned := { name := "ytoojiabdgaflgaa", sum := "ecfa046c8474d11674a630babf168be6db3a991f61b356e447a7d72b6fbdbed8", checked := Try.checked }
namespace Rows
def none {H : Type} : Left H := { results := [], args := [] }

/-- 'tilefarmlaw12.HistogramOrderless': WHATEVER THE INPUT: true; the input reads as it did. -/
def histogramOrderlessSpec : ChangeSpec := { name := "histogramOrderless", fn := fun _ => fun
  | [d1, d2] => { results := [.lit (.bool true)], args := [d1, d2] }
  | _ => none }
def histogramOrderlessRow : OpenClaim := { program := "ytoojiabdgaflgaa", sum := "ecfa046c8474d11674a630babf168be6db3a991f61b356e447a7d72b6fbdbed8", func := "tilefarm/tilefarmlaw12.HistogramOrderless", spec := "histogramOrderless", apart := false }
def HistogramOrderlessSaid : Prop := histogramOrderlessRow.holds Try.pinned (OpenSpec.ofChange histogramOrderlessSpec)

/-- ITS FALSE NEIGHBOUR: 'it returns false'. Refute it at one input. -/
def histogramOrderlessWrong : ChangeSpec := { name := "histogramOrderless", fn := fun _ => fun
  | [d1, d2] => { results := [.lit (.bool false)], args := [d1, d2] }
  | _ => none }
def HistogramOrderlessWrongFalsely : Prop := histogramOrderlessRow.holds Try.pinned (OpenSpec.ofChange histogramOrderlessWrong)

/-- 'tilefarmlaw12.HistogramCounts': WHATEVER THE INPUT: true; the input reads as it did. -/
def histogramCountsSpec : ChangeSpec := { name := "histogramCounts", fn := fun _ => fun
  | [d1, d2, d3, d4, d5] => { results := [.lit (.bool true)], args := [d1, d2, d3, d4, d5] }
  | _ => none }
def histogramCountsRow : OpenClaim := { program := "ytoojiabdgaflgaa", sum := "ecfa046c8474d11674a630babf168be6db3a991f61b356e447a7d72b6fbdbed8", func := "tilefarm/tilefarmlaw12.HistogramCounts", spec := "histogramCounts", apart := false }
def HistogramCountsSaid : Prop := histogramCountsRow.holds Try.pinned (OpenSpec.ofChange histogramCountsSpec)

/-- ITS FALSE NEIGHBOUR: 'it returns false'. Refute it at one input. -/
def histogramCountsWrong : ChangeSpec := { name := "histogramCounts", fn := fun _ => fun
  | [d1, d2, d3, d4, d5] => { results := [.lit (.bool false)], args := [d1, d2, d3, d4, d5] }
  | _ => none }
def HistogramCountsWrongFalsely : Prop := histogramCountsRow.holds Try.pinned (OpenSpec.ofChange histogramCountsWrong)

/-- 'tilefarmlaw12.HistogramMerges': WHATEVER THE INPUT: true; the input reads as it did. -/
def histogramMergesSpec : ChangeSpec := { name := "histogramMerges", fn := fun _ => fun
  | [d1, d2] => { results := [.lit (.bool true)], args := [d1, d2] }
  | _ => none }
def histogramMergesRow : OpenClaim := { program := "ytoojiabdgaflgaa", sum := "ecfa046c8474d11674a630babf168be6db3a991f61b356e447a7d72b6fbdbed8", func := "tilefarm/tilefarmlaw12.HistogramMerges", spec := "histogramMerges", apart := false }
def HistogramMergesSaid : Prop := histogramMergesRow.holds Try.pinned (OpenSpec.ofChange histogramMergesSpec)

/-- ITS FALSE NEIGHBOUR: 'it returns false'. Refute it at one input. -/
def histogramMergesWrong : ChangeSpec := { name := "histogramMerges", fn := fun _ => fun
  | [d1, d2] => { results := [.lit (.bool false)], args := [d1, d2] }
  | _ => none }
def HistogramMergesWrongFalsely : Prop := histogramMergesRow.holds Try.pinned (OpenSpec.ofChange histogramMergesWrong)

/-- 'tilefarmlaw12.HistogramBins': WHATEVER THE INPUT: true; the input reads as it did. -/
def histogramBinsSpec : ChangeSpec := { name := "histogramBins", fn := fun _ => fun
  | [d1, d2, d3, d4] => { results := [.lit (.bool true)], args := [d1, d2, d3, d4] }
  | _ => none }
def histogramBinsRow : OpenClaim := { program := "ytoojiabdgaflgaa", sum := "ecfa046c8474d11674a630babf168be6db3a991f61b356e447a7d72b6fbdbed8", func := "tilefarm/tilefarmlaw12.HistogramBins", spec := "histogramBins", apart := false }
def HistogramBinsSaid : Prop := histogramBinsRow.holds Try.pinned (OpenSpec.ofChange histogramBinsSpec)

/-- ITS FALSE NEIGHBOUR: 'it returns false'. Refute it at one input. -/
def histogramBinsWrong : ChangeSpec := { name := "histogramBins", fn := fun _ => fun
  | [d1, d2, d3, d4] => { results := [.lit (.bool false)], args := [d1, d2, d3, d4] }
  | _ => none }
def HistogramBinsWrongFalsely : Prop := histogramBinsRow.holds Try.pinned (OpenSpec.ofChange histogramBinsWrong)

/-- 'tilefarmlaw13.IntegralMonotone': WHATEVER THE INPUT: true; the input reads as it did. -/
def integralMonotoneSpec : ChangeSpec := { name := "integralMonotone", fn := fun _ => fun
  | [d] => { results := [.lit (.bool true)], args := [d] }
  | _ => none }
def integralMonotoneRow : OpenClaim := { program := "ytoojiabdgaflgaa", sum := "ecfa046c8474d11674a630babf168be6db3a991f61b356e447a7d72b6fbdbed8", func := "tilefarm/tilefarmlaw13.IntegralMonotone", spec := "integralMonotone", unfollowed := true, recurses := true, apart := false }
def IntegralMonotoneSaid : Prop := integralMonotoneRow.holds Try.pinned (OpenSpec.ofChange integralMonotoneSpec)

/-- ITS FALSE NEIGHBOUR: 'it returns false'. Refute it at one input. -/
def integralMonotoneWrong : ChangeSpec := { name := "integralMonotone", fn := fun _ => fun
  | [d] => { results := [.lit (.bool false)], args := [d] }
  | _ => none }
def IntegralMonotoneWrongFalsely : Prop := integralMonotoneRow.holds Try.pinned (OpenSpec.ofChange integralMonotoneWrong)

/-- 'tilefarmlaw13.IntegralWhole': WHATEVER THE INPUT: true; the input reads as it did. -/
def integralWholeSpec : ChangeSpec := { name := "integralWhole", fn := fun _ => fun
  | [d1, d2, d3] => { results := [.lit (.bool true)], args := [d1, d2, d3] }
  | _ => none }
def integralWholeRow : OpenClaim := { program := "ytoojiabdgaflgaa", sum := "ecfa046c8474d11674a630babf168be6db3a991f61b356e447a7d72b6fbdbed8", func := "tilefarm/tilefarmlaw13.IntegralWhole", spec := "integralWhole", unfollowed := true, recurses := true, apart := false }
def IntegralWholeSaid : Prop := integralWholeRow.holds Try.pinned (OpenSpec.ofChange integralWholeSpec)

/-- ITS FALSE NEIGHBOUR: 'it returns false'. Refute it at one input. -/
def integralWholeWrong : ChangeSpec := { name := "integralWhole", fn := fun _ => fun
  | [d1, d2, d3] => { results := [.lit (.bool false)], args := [d1, d2, d3] }
  | _ => none }
def IntegralWholeWrongFalsely : Prop := integralWholeRow.holds Try.pinned (OpenSpec.ofChange integralWholeWrong)

/-- 'tilefarmlaw13.IntegralTiles': WHATEVER THE INPUT: true; the input reads as it did. -/
def integralTilesSpec : ChangeSpec := { name := "integralTiles", fn := fun _ => fun
  | [d1, d2, d3, d4] => { results := [.lit (.bool true)], args := [d1, d2, d3, d4] }
  | _ => none }
def integralTilesRow : OpenClaim := { program := "ytoojiabdgaflgaa", sum := "ecfa046c8474d11674a630babf168be6db3a991f61b356e447a7d72b6fbdbed8", func := "tilefarm/tilefarmlaw13.IntegralTiles", spec := "integralTiles", unfollowed := true, recurses := true, apart := false }
def IntegralTilesSaid : Prop := integralTilesRow.holds Try.pinned (OpenSpec.ofChange integralTilesSpec)

/-- ITS FALSE NEIGHBOUR: 'it returns false'. Refute it at one input. -/
def integralTilesWrong : ChangeSpec := { name := "integralTiles", fn := fun _ => fun
  | [d1, d2, d3, d4] => { results := [.lit (.bool false)], args := [d1, d2, d3, d4] }
  | _ => none }
def IntegralTilesWrongFalsely : Prop := integralTilesRow.holds Try.pinned (OpenSpec.ofChange integralTilesWrong)

/-- 'tilefarmlaw13.IntegralSums': WHATEVER THE INPUT: true; the input reads as it did. -/
def integralSumsSpec : ChangeSpec := { name := "integralSums", fn := fun _ => fun
  | [d] => { results := [.lit (.bool true)], args := [d] }
  | _ => none }
def integralSumsRow : OpenClaim := { program := "ytoojiabdgaflgaa", sum := "ecfa046c8474d11674a630babf168be6db3a991f61b356e447a7d72b6fbdbed8", func := "tilefarm/tilefarmlaw13.IntegralSums", spec := "integralSums", unfollowed := true, recurses := true, apart := false }
def IntegralSumsSaid : Prop := integralSumsRow.holds Try.pinned (OpenSpec.ofChange integralSumsSpec)

/-- ITS FALSE NEIGHBOUR: 'it returns false'. Refute it at one input. -/
def integralSumsWrong : ChangeSpec := { name := "integralSums", fn := fun _ => fun
  | [d] => { results := [.lit (.bool false)], args := [d] }
  | _ => none }
def IntegralSumsWrongFalsely : Prop := integralSumsRow.holds Try.pinned (OpenSpec.ofChange integralSumsWrong)

/-- 'tilefarmlaw12.HistogramTiles': WHATEVER THE INPUT: true; the input reads as it did. -/
def histogramTilesSpec : ChangeSpec := { name := "histogramTiles", fn := fun _ => fun
  | [d1, d2] => { results := [.lit (.bool true)], args := [d1, d2] }
  | _ => none }
def histogramTilesRow : OpenClaim := { program := "ytoojiabdgaflgaa", sum := "ecfa046c8474d11674a630babf168be6db3a991f61b356e447a7d72b6fbdbed8", func := "tilefarm/tilefarmlaw12.HistogramTiles", spec := "histogramTiles", apart := false }
def HistogramTilesSaid : Prop := histogramTilesRow.holds Try.pinned (OpenSpec.ofChange histogramTilesSpec)

/-- ITS FALSE NEIGHBOUR: 'it returns false'. Refute it at one input. -/
def histogramTilesWrong : ChangeSpec := { name := "histogramTiles", fn := fun _ => fun
  | [d1, d2] => { results := [.lit (.bool false)], args := [d1, d2] }
  | _ => none }
def HistogramTilesWrongFalsely : Prop := histogramTilesRow.holds Try.pinned (OpenSpec.ofChange histogramTilesWrong)

/-- 'tilefarmlaw4.PlaneShares': WHATEVER THE INPUT: true; the input reads as it did. -/
def planeSharesSpec : ChangeSpec := { name := "planeShares", fn := fun _ => fun
  | [d] => { results := [.lit (.bool true)], args := [d] }
  | _ => none }
def planeSharesRow : OpenClaim := { program := "ytoojiabdgaflgaa", sum := "ecfa046c8474d11674a630babf168be6db3a991f61b356e447a7d72b6fbdbed8", func := "tilefarm/tilefarmlaw4.PlaneShares", spec := "planeShares", apart := false }
def PlaneSharesSaid : Prop := planeSharesRow.holds Try.pinned (OpenSpec.ofChange planeSharesSpec)

/-- ITS FALSE NEIGHBOUR: 'it returns false'. Refute it at one input. -/
def planeSharesWrong : ChangeSpec := { name := "planeShares", fn := fun _ => fun
  | [d] => { results := [.lit (.bool false)], args := [d] }
  | _ => none }
def PlaneSharesWrongFalsely : Prop := planeSharesRow.holds Try.pinned (OpenSpec.ofChange planeSharesWrong)

/-- 'tilefarmlaw4.PlaneValid': WHATEVER THE INPUT: true; the input reads as it did. -/
def planeValidSpec : ChangeSpec := { name := "planeValid", fn := fun _ => fun
  | [d1, d2, d3, d4, d5] => { results := [.lit (.bool true)], args := [d1, d2, d3, d4, d5] }
  | _ => none }
def planeValidRow : OpenClaim := { program := "ytoojiabdgaflgaa", sum := "ecfa046c8474d11674a630babf168be6db3a991f61b356e447a7d72b6fbdbed8", func := "tilefarm/tilefarmlaw4.PlaneValid", spec := "planeValid", apart := false }
def PlaneValidSaid : Prop := planeValidRow.holds Try.pinned (OpenSpec.ofChange planeValidSpec)

/-- ITS FALSE NEIGHBOUR: 'it returns false'. Refute it at one input. -/
def planeValidWrong : ChangeSpec := { name := "planeValid", fn := fun _ => fun
  | [d1, d2, d3, d4, d5] => { results := [.lit (.bool false)], args := [d1, d2, d3, d4, d5] }
  | _ => none }
def PlaneValidWrongFalsely : Prop := planeValidRow.holds Try.pinned (OpenSpec.ofChange planeValidWrong)

/-- 'tilefarmlaw4.PlaneReads': WHATEVER THE INPUT: true; the input reads as it did. -/
def planeReadsSpec : ChangeSpec := { name := "planeReads", fn := fun _ => fun
  | [d1, d2, d3, d4] => { results := [.lit (.bool true)], args := [d1, d2, d3, d4] }
  | _ => none }
def planeReadsRow : OpenClaim := { program := "ytoojiabdgaflgaa", sum := "ecfa046c8474d11674a630babf168be6db3a991f61b356e447a7d72b6fbdbed8", func := "tilefarm/tilefarmlaw4.PlaneReads", spec := "planeReads", apart := false }
def PlaneReadsSaid : Prop := planeReadsRow.holds Try.pinned (OpenSpec.ofChange planeReadsSpec)

/-- ITS FALSE NEIGHBOUR: 'it returns false'. Refute it at one input. -/
def planeReadsWrong : ChangeSpec := { name := "planeReads", fn := fun _ => fun
  | [d1, d2, d3, d4] => { results := [.lit (.bool false)], args := [d1, d2, d3, d4] }
  | _ => none }
def PlaneReadsWrongFalsely : Prop := planeReadsRow.holds Try.pinned (OpenSpec.ofChange planeReadsWrong)

/-- 'tilefarmlaw4.PlaneCrops': WHATEVER THE INPUT: true; the input reads as it did. -/
def planeCropsSpec : ChangeSpec := { name := "planeCrops", fn := fun _ => fun
  | [d1, d2, d3, d4] => { results := [.lit (.bool true)], args := [d1, d2, d3, d4] }
  | _ => none }
def planeCropsRow : OpenClaim := { program := "ytoojiabdgaflgaa", sum := "ecfa046c8474d11674a630babf168be6db3a991f61b356e447a7d72b6fbdbed8", func := "tilefarm/tilefarmlaw4.PlaneCrops", spec := "planeCrops", apart := false }
def PlaneCropsSaid : Prop := planeCropsRow.holds Try.pinned (OpenSpec.ofChange planeCropsSpec)

/-- ITS FALSE NEIGHBOUR: 'it returns false'. Refute it at one input. -/
def planeCropsWrong : ChangeSpec := { name := "planeCrops", fn := fun _ => fun
  | [d1, d2, d3, d4] => { results := [.lit (.bool false)], args := [d1, d2, d3, d4] }
  | _ => none }
def PlaneCropsWrongFalsely : Prop := planeCropsRow.holds Try.pinned (OpenSpec.ofChange planeCropsWrong)

/-- 'tilefarmlaw4.PlaneBlits': WHATEVER THE INPUT: true; the input reads as it did. -/
def planeBlitsSpec : ChangeSpec := { name := "planeBlits", fn := fun _ => fun
  | [d1, d2] => { results := [.lit (.bool true)], args := [d1, d2] }
  | _ => none }
def planeBlitsRow : OpenClaim := { program := "ytoojiabdgaflgaa", sum := "ecfa046c8474d11674a630babf168be6db3a991f61b356e447a7d72b6fbdbed8", func := "tilefarm/tilefarmlaw4.PlaneBlits", spec := "planeBlits", apart := false }
def PlaneBlitsSaid : Prop := planeBlitsRow.holds Try.pinned (OpenSpec.ofChange planeBlitsSpec)

/-- ITS FALSE NEIGHBOUR: 'it returns false'. Refute it at one input. -/
def planeBlitsWrong : ChangeSpec := { name := "planeBlits", fn := fun _ => fun
  | [d1, d2] => { results := [.lit (.bool false)], args := [d1, d2] }
  | _ => none }
def PlaneBlitsWrongFalsely : Prop := planeBlitsRow.holds Try.pinned (OpenSpec.ofChange planeBlitsWrong)

/-- 'tilefarmlaw13.IntegralGrows': WHATEVER THE INPUT: true; the input reads as it did. -/
def integralGrowsSpec : ChangeSpec := { name := "integralGrows", fn := fun _ => fun
  | [d] => { results := [.lit (.bool true)], args := [d] }
  | _ => none }
def integralGrowsRow : OpenClaim := { program := "ytoojiabdgaflgaa", sum := "ecfa046c8474d11674a630babf168be6db3a991f61b356e447a7d72b6fbdbed8", func := "tilefarm/tilefarmlaw13.IntegralGrows", spec := "integralGrows", unfollowed := true, recurses := true, apart := false }
def IntegralGrowsSaid : Prop := integralGrowsRow.holds Try.pinned (OpenSpec.ofChange integralGrowsSpec)

/-- ITS FALSE NEIGHBOUR: 'it returns false'. Refute it at one input. -/
def integralGrowsWrong : ChangeSpec := { name := "integralGrows", fn := fun _ => fun
  | [d] => { results := [.lit (.bool false)], args := [d] }
  | _ => none }
def IntegralGrowsWrongFalsely : Prop := integralGrowsRow.holds Try.pinned (OpenSpec.ofChange integralGrowsWrong)

/- THE SECOND FORM. 'bulk': how many values and letters a reading holds, each counted each time it is reached (what is shared counts as often as it is met; a slice's spare places count too). A statement '..UptoSaid' is the law's where the arguments, and the package variables that the reading takes, are together of bulk at most 1048576: NARROWER than '..Said'. Prove '..Said' where nothing that the law and all that it calls make is longer than what came in: it says more and counts as full. Else prove '..UptoSaid'. A law counts once. -/
mutual
def uptoBulk {H : Type} : DataW H → Nat
  | .lit (.string bytes) => bytes.length + 1
  | .lit _ => 1
  | .nil => 1
  | .ptr d => uptoBulk d + 1
  | .slice elems spare => uptoBulkAll elems + uptoBulkAll spare + 1
  | .agg parts => uptoBulkAll parts + 1
  | .iface _ d => uptoBulk d + 1
  | .map entries => uptoBulkEntries entries + 1
  | .held _ => 1
def uptoBulkAll {H : Type} : List (DataW H) → Nat
  | [] => 0
  | d :: r => uptoBulk d + uptoBulkAll r
def uptoBulkEntries {H : Type} : List (Lit × DataW H) → Nat
  | [] => 0
  | x :: r => uptoBulkEntry x + uptoBulkEntries r
def uptoBulkEntry {H : Type} : Lit × DataW H → Nat
  | (.string bytes, d) => bytes.length + uptoBulk d + 1
  | (_, d) => uptoBulk d + 1
 end
def uptoSmall : (H : Type) → List (DataW H) → Bool := fun _ ds => decide (uptoBulkAll ds ≤ 1048576)
def OpenSpec.upto (s : _root_.Go.ChangeSpec) : _root_.Go.OpenSpec := { _root_.Go.OpenSpec.ofChange s with cond := some uptoSmall }

/-- 'tilefarmlaw12.HistogramOrderless', WHERE WHAT IT READS IS OF BULK AT MOST 1048576: true; the input reads as it did. -/
def histogramOrderlessUptoRow : OpenClaim := { program := "ytoojiabdgaflgaa", sum := "ecfa046c8474d11674a630babf168be6db3a991f61b356e447a7d72b6fbdbed8", func := "tilefarm/tilefarmlaw12.HistogramOrderless", spec := "histogramOrderless", apart := false, narrowed := true }
def HistogramOrderlessUptoSaid : Prop := histogramOrderlessUptoRow.holds Try.pinned (OpenSpec.upto histogramOrderlessSpec)

/-- 'tilefarmlaw12.HistogramCounts', WHERE WHAT IT READS IS OF BULK AT MOST 1048576: true; the input reads as it did. -/
def histogramCountsUptoRow : OpenClaim := { program := "ytoojiabdgaflgaa", sum := "ecfa046c8474d11674a630babf168be6db3a991f61b356e447a7d72b6fbdbed8", func := "tilefarm/tilefarmlaw12.HistogramCounts", spec := "histogramCounts", apart := false, narrowed := true }
def HistogramCountsUptoSaid : Prop := histogramCountsUptoRow.holds Try.pinned (OpenSpec.upto histogramCountsSpec)

/-- 'tilefarmlaw12.HistogramMerges', WHERE WHAT IT READS IS OF BULK AT MOST 1048576: true; the input reads as it did. -/
def histogramMergesUptoRow : OpenClaim := { program := "ytoojiabdgaflgaa", sum := "ecfa046c8474d11674a630babf168be6db3a991f61b356e447a7d72b6fbdbed8", func := "tilefarm/tilefarmlaw12.HistogramMerges", spec := "histogramMerges", apart := false, narrowed := true }
def HistogramMergesUptoSaid : Prop := histogramMergesUptoRow.holds Try.pinned (OpenSpec.upto histogramMergesSpec)

/-- 'tilefarmlaw12.HistogramBins', WHERE WHAT IT READS IS OF BULK AT MOST 1048576: true; the input reads as it did. -/
def histogramBinsUptoRow : OpenClaim := { program := "ytoojiabdgaflgaa", sum := "ecfa046c8474d11674a630babf168be6db3a991f61b356e447a7d72b6fbdbed8", func := "tilefarm/tilefarmlaw12.HistogramBins", spec := "histogramBins", apart := false, narrowed := true }
def HistogramBinsUptoSaid : Prop := histogramBinsUptoRow.holds Try.pinned (OpenSpec.upto histogramBinsSpec)

/-- 'tilefarmlaw13.IntegralMonotone', WHERE WHAT IT READS IS OF BULK AT MOST 1048576: true; the input reads as it did. -/
def integralMonotoneUptoRow : OpenClaim := { program := "ytoojiabdgaflgaa", sum := "ecfa046c8474d11674a630babf168be6db3a991f61b356e447a7d72b6fbdbed8", func := "tilefarm/tilefarmlaw13.IntegralMonotone", spec := "integralMonotone", unfollowed := true, recurses := true, apart := false, narrowed := true }
def IntegralMonotoneUptoSaid : Prop := integralMonotoneUptoRow.holds Try.pinned (OpenSpec.upto integralMonotoneSpec)

/-- 'tilefarmlaw13.IntegralWhole', WHERE WHAT IT READS IS OF BULK AT MOST 1048576: true; the input reads as it did. -/
def integralWholeUptoRow : OpenClaim := { program := "ytoojiabdgaflgaa", sum := "ecfa046c8474d11674a630babf168be6db3a991f61b356e447a7d72b6fbdbed8", func := "tilefarm/tilefarmlaw13.IntegralWhole", spec := "integralWhole", unfollowed := true, recurses := true, apart := false, narrowed := true }
def IntegralWholeUptoSaid : Prop := integralWholeUptoRow.holds Try.pinned (OpenSpec.upto integralWholeSpec)

/-- 'tilefarmlaw13.IntegralTiles', WHERE WHAT IT READS IS OF BULK AT MOST 1048576: true; the input reads as it did. -/
def integralTilesUptoRow : OpenClaim := { program := "ytoojiabdgaflgaa", sum := "ecfa046c8474d11674a630babf168be6db3a991f61b356e447a7d72b6fbdbed8", func := "tilefarm/tilefarmlaw13.IntegralTiles", spec := "integralTiles", unfollowed := true, recurses := true, apart := false, narrowed := true }
def IntegralTilesUptoSaid : Prop := integralTilesUptoRow.holds Try.pinned (OpenSpec.upto integralTilesSpec)

/-- 'tilefarmlaw13.IntegralSums', WHERE WHAT IT READS IS OF BULK AT MOST 1048576: true; the input reads as it did. -/
def integralSumsUptoRow : OpenClaim := { program := "ytoojiabdgaflgaa", sum := "ecfa046c8474d11674a630babf168be6db3a991f61b356e447a7d72b6fbdbed8", func := "tilefarm/tilefarmlaw13.IntegralSums", spec := "integralSums", unfollowed := true, recurses := true, apart := false, narrowed := true }
def IntegralSumsUptoSaid : Prop := integralSumsUptoRow.holds Try.pinned (OpenSpec.upto integralSumsSpec)

/-- 'tilefarmlaw12.HistogramTiles', WHERE WHAT IT READS IS OF BULK AT MOST 1048576: true; the input reads as it did. -/
def histogramTilesUptoRow : OpenClaim := { program := "ytoojiabdgaflgaa", sum := "ecfa046c8474d11674a630babf168be6db3a991f61b356e447a7d72b6fbdbed8", func := "tilefarm/tilefarmlaw12.HistogramTiles", spec := "histogramTiles", apart := false, narrowed := true }
def HistogramTilesUptoSaid : Prop := histogramTilesUptoRow.holds Try.pinned (OpenSpec.upto histogramTilesSpec)

/-- 'tilefarmlaw4.PlaneShares', WHERE WHAT IT READS IS OF BULK AT MOST 1048576: true; the input reads as it did. -/
def planeSharesUptoRow : OpenClaim := { program := "ytoojiabdgaflgaa", sum := "ecfa046c8474d11674a630babf168be6db3a991f61b356e447a7d72b6fbdbed8", func := "tilefarm/tilefarmlaw4.PlaneShares", spec := "planeShares", apart := false, narrowed := true }
def PlaneSharesUptoSaid : Prop := planeSharesUptoRow.holds Try.pinned (OpenSpec.upto planeSharesSpec)

/-- 'tilefarmlaw4.PlaneValid', WHERE WHAT IT READS IS OF BULK AT MOST 1048576: true; the input reads as it did. -/
def planeValidUptoRow : OpenClaim := { program := "ytoojiabdgaflgaa", sum := "ecfa046c8474d11674a630babf168be6db3a991f61b356e447a7d72b6fbdbed8", func := "tilefarm/tilefarmlaw4.PlaneValid", spec := "planeValid", apart := false, narrowed := true }
def PlaneValidUptoSaid : Prop := planeValidUptoRow.holds Try.pinned (OpenSpec.upto planeValidSpec)

/-- 'tilefarmlaw4.PlaneReads', WHERE WHAT IT READS IS OF BULK AT MOST 1048576: true; the input reads as it did. -/
def planeReadsUptoRow : OpenClaim := { program := "ytoojiabdgaflgaa", sum := "ecfa046c8474d11674a630babf168be6db3a991f61b356e447a7d72b6fbdbed8", func := "tilefarm/tilefarmlaw4.PlaneReads", spec := "planeReads", apart := false, narrowed := true }
def PlaneReadsUptoSaid : Prop := planeReadsUptoRow.holds Try.pinned (OpenSpec.upto planeReadsSpec)

/-- 'tilefarmlaw4.PlaneCrops', WHERE WHAT IT READS IS OF BULK AT MOST 1048576: true; the input reads as it did. -/
def planeCropsUptoRow : OpenClaim := { program := "ytoojiabdgaflgaa", sum := "ecfa046c8474d11674a630babf168be6db3a991f61b356e447a7d72b6fbdbed8", func := "tilefarm/tilefarmlaw4.PlaneCrops", spec := "planeCrops", apart := false, narrowed := true }
def PlaneCropsUptoSaid : Prop := planeCropsUptoRow.holds Try.pinned (OpenSpec.upto planeCropsSpec)

/-- 'tilefarmlaw4.PlaneBlits', WHERE WHAT IT READS IS OF BULK AT MOST 1048576: true; the input reads as it did. -/
def planeBlitsUptoRow : OpenClaim := { program := "ytoojiabdgaflgaa", sum := "ecfa046c8474d11674a630babf168be6db3a991f61b356e447a7d72b6fbdbed8", func := "tilefarm/tilefarmlaw4.PlaneBlits", spec := "planeBlits", apart := false, narrowed := true }
def PlaneBlitsUptoSaid : Prop := planeBlitsUptoRow.holds Try.pinned (OpenSpec.upto planeBlitsSpec)

/-- 'tilefarmlaw13.IntegralGrows', WHERE WHAT IT READS IS OF BULK AT MOST 1048576: true; the input reads as it did. -/
def integralGrowsUptoRow : OpenClaim := { program := "ytoojiabdgaflgaa", sum := "ecfa046c8474d11674a630babf168be6db3a991f61b356e447a7d72b6fbdbed8", func := "tilefarm/tilefarmlaw13.IntegralGrows", spec := "integralGrows", unfollowed := true, recurses := true, apart := false, narrowed := true }
def IntegralGrowsUptoSaid : Prop := integralGrowsUptoRow.holds Try.pinned (OpenSpec.upto integralGrowsSpec)

end Rows
end Go.Proofs.Ytoojiabdgaflgaa
