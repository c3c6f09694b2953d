/-
  NARROWER THAN 'FOR EVERY INPUT', by the rows' own cells (each row's printed sentence says how): TablesValid: laid · TablesMake: laid · TablesQuantize: laid · TablesSums: laid · TablesIdentity: laid.
  DERIVED. THE GIVEN ROWS OF THIS SEAT. 5 by the template 'for every input the law returns true; each argument reads behind the call as it read before'; 0 by the template 'total and deterministic' (their statements: YtgpblcddebhphaaDoorTotals.lean).
  GIVEN WITH THE SEED: the statements are not yours to turn. If you find one false, say at which input.
  Laid BY PROGRAM, IN A SANDBOX (cutbox-rows.mjs): the forced cells as the released guide's own fill.sh prints them over the translation 47b4d18c06d18403… (all of the seat's roots in one cut). By AI agents, Wed Nov 11 2026. No macro, syntax, notation, axiom, sorry.
-/
import Derived.Test.YtgpblcddebhphaaDoorChecked
import GoSem.Claim
import GoSem.ClaimJoined
import GoSem.ClaimMapViews
import Derived.JoinedTies
import Derived.KernelRfl
namespace Go.Proofs.YtgpblcddebhphaaDoor
/- THE CELL 'sum', in the pinned program and in every row, IS THE sha256 OF THE DUMP (.gsa) THAT YtgpblcddebhphaaDoorProg.lean LOADS. Nothing in Lean hashes anything: it is a label: what it is worth is what the hold of that sum in a sandbox is worth. -/
noncomputable def Tryd.pinned : Pinned := { name := "ytgpblcddebhphaadoor", sum := "47b4d18c06d18403c2847deec5748079b67654d2aaf5cf42c31f429e8cd03361", checked := Tryd.checked }
namespace Rows
def none {H : Type} : Left H := { results := [], args := [] }

/- WHAT THE LISTED PACKAGE-LEVEL VARIABLES READ AS WHEN THE CALL BEGINS. Each datum BY PROGRAM (the guide's laid-datum.mjs) off the statement by which the dump's own 'gosem.cut.vars' lays the variable. In a bare row this is a premise. The card (YtgpblcddebhphaaDoorCards.lean) ties it to the program's text. -/
def laid_math_bits_deBruijn64tab {H : Type} : DataW H := .agg [.lit (.int .u8 0), .lit (.int .u8 1), .lit (.int .u8 56), .lit (.int .u8 2), .lit (.int .u8 57), .lit (.int .u8 49), .lit (.int .u8 28), .lit (.int .u8 3), .lit (.int .u8 61), .lit (.int .u8 58), .lit (.int .u8 42), .lit (.int .u8 50), .lit (.int .u8 38), .lit (.int .u8 29), .lit (.int .u8 17), .lit (.int .u8 4), .lit (.int .u8 62), .lit (.int .u8 47), .lit (.int .u8 59), .lit (.int .u8 36), .lit (.int .u8 45), .lit (.int .u8 43), .lit (.int .u8 51), .lit (.int .u8 22), .lit (.int .u8 53), .lit (.int .u8 39), .lit (.int .u8 33), .lit (.int .u8 30), .lit (.int .u8 24), .lit (.int .u8 18), .lit (.int .u8 12), .lit (.int .u8 5), .lit (.int .u8 63), .lit (.int .u8 55), .lit (.int .u8 48), .lit (.int .u8 27), .lit (.int .u8 60), .lit (.int .u8 41), .lit (.int .u8 37), .lit (.int .u8 16), .lit (.int .u8 46), .lit (.int .u8 35), .lit (.int .u8 44), .lit (.int .u8 21), .lit (.int .u8 52), .lit (.int .u8 32), .lit (.int .u8 23), .lit (.int .u8 11), .lit (.int .u8 54), .lit (.int .u8 26), .lit (.int .u8 40), .lit (.int .u8 15), .lit (.int .u8 34), .lit (.int .u8 20), .lit (.int .u8 31), .lit (.int .u8 10), .lit (.int .u8 25), .lit (.int .u8 14), .lit (.int .u8 19), .lit (.int .u8 9), .lit (.int .u8 13), .lit (.int .u8 8), .lit (.int .u8 7), .lit (.int .u8 6)]

/-- 'tilefarmlaw8.TablesValid': WHATEVER THE INPUT: true; the input reads as it did. -/
def tablesValidSpec : ChangeSpec := { name := "tablesValid", fn := fun _ => fun
  | [d1, d2, d3] => { results := [.lit (.bool true)], args := [d1, d2, d3] }
  | _ => none }
def tablesValidRow : OpenClaim := { program := "ytgpblcddebhphaadoor", sum := "47b4d18c06d18403c2847deec5748079b67654d2aaf5cf42c31f429e8cd03361", func := "tilefarm/tilefarmlaw8.TablesValid", spec := "tablesValid", named := ["math/bits.deBruijn64tab"], apart := false, laid := [("math/bits.deBruijn64tab", laid_math_bits_deBruijn64tab)] }
def TablesValidSaid : Prop := tablesValidRow.holds Tryd.pinned (OpenSpec.ofChange tablesValidSpec)

/-- ITS FALSE NEIGHBOUR: 'it returns false'. Refute it at one input. -/
def tablesValidWrong : ChangeSpec := { name := "tablesValid", fn := fun _ => fun
  | [d1, d2, d3] => { results := [.lit (.bool false)], args := [d1, d2, d3] }
  | _ => none }
def TablesValidWrongFalsely : Prop := tablesValidRow.holds Tryd.pinned (OpenSpec.ofChange tablesValidWrong)

/-- 'tilefarmlaw8.TablesMake': WHATEVER THE INPUT: true; the input reads as it did. -/
def tablesMakeSpec : ChangeSpec := { name := "tablesMake", fn := fun _ => fun
  | [d1, d2, d3] => { results := [.lit (.bool true)], args := [d1, d2, d3] }
  | _ => none }
def tablesMakeRow : OpenClaim := { program := "ytgpblcddebhphaadoor", sum := "47b4d18c06d18403c2847deec5748079b67654d2aaf5cf42c31f429e8cd03361", func := "tilefarm/tilefarmlaw8.TablesMake", spec := "tablesMake", named := ["math/bits.deBruijn64tab"], apart := false, laid := [("math/bits.deBruijn64tab", laid_math_bits_deBruijn64tab)] }
def TablesMakeSaid : Prop := tablesMakeRow.holds Tryd.pinned (OpenSpec.ofChange tablesMakeSpec)

/-- ITS FALSE NEIGHBOUR: 'it returns false'. Refute it at one input. -/
def tablesMakeWrong : ChangeSpec := { name := "tablesMake", fn := fun _ => fun
  | [d1, d2, d3] => { results := [.lit (.bool false)], args := [d1, d2, d3] }
  | _ => none }
def TablesMakeWrongFalsely : Prop := tablesMakeRow.holds Tryd.pinned (OpenSpec.ofChange tablesMakeWrong)

/-- 'tilefarmlaw8.TablesQuantize': WHATEVER THE INPUT: true; the input reads as it did. -/
def tablesQuantizeSpec : ChangeSpec := { name := "tablesQuantize", fn := fun _ => fun
  | [d1, d2, d3, d4] => { results := [.lit (.bool true)], args := [d1, d2, d3, d4] }
  | _ => none }
def tablesQuantizeRow : OpenClaim := { program := "ytgpblcddebhphaadoor", sum := "47b4d18c06d18403c2847deec5748079b67654d2aaf5cf42c31f429e8cd03361", func := "tilefarm/tilefarmlaw8.TablesQuantize", spec := "tablesQuantize", named := ["math/bits.deBruijn64tab"], apart := false, laid := [("math/bits.deBruijn64tab", laid_math_bits_deBruijn64tab)] }
def TablesQuantizeSaid : Prop := tablesQuantizeRow.holds Tryd.pinned (OpenSpec.ofChange tablesQuantizeSpec)

/-- ITS FALSE NEIGHBOUR: 'it returns false'. Refute it at one input. -/
def tablesQuantizeWrong : ChangeSpec := { name := "tablesQuantize", fn := fun _ => fun
  | [d1, d2, d3, d4] => { results := [.lit (.bool false)], args := [d1, d2, d3, d4] }
  | _ => none }
def TablesQuantizeWrongFalsely : Prop := tablesQuantizeRow.holds Tryd.pinned (OpenSpec.ofChange tablesQuantizeWrong)

/-- 'tilefarmlaw8.TablesSums': WHATEVER THE INPUT: true; the input reads as it did. -/
def tablesSumsSpec : ChangeSpec := { name := "tablesSums", fn := fun _ => fun
  | [d1, d2, d3] => { results := [.lit (.bool true)], args := [d1, d2, d3] }
  | _ => none }
def tablesSumsRow : OpenClaim := { program := "ytgpblcddebhphaadoor", sum := "47b4d18c06d18403c2847deec5748079b67654d2aaf5cf42c31f429e8cd03361", func := "tilefarm/tilefarmlaw8.TablesSums", spec := "tablesSums", named := ["math/bits.deBruijn64tab"], apart := false, laid := [("math/bits.deBruijn64tab", laid_math_bits_deBruijn64tab)] }
def TablesSumsSaid : Prop := tablesSumsRow.holds Tryd.pinned (OpenSpec.ofChange tablesSumsSpec)

/-- ITS FALSE NEIGHBOUR: 'it returns false'. Refute it at one input. -/
def tablesSumsWrong : ChangeSpec := { name := "tablesSums", fn := fun _ => fun
  | [d1, d2, d3] => { results := [.lit (.bool false)], args := [d1, d2, d3] }
  | _ => none }
def TablesSumsWrongFalsely : Prop := tablesSumsRow.holds Tryd.pinned (OpenSpec.ofChange tablesSumsWrong)

/-- 'tilefarmlaw8.TablesIdentity': WHATEVER THE INPUT: true; the input reads as it did. -/
def tablesIdentitySpec : ChangeSpec := { name := "tablesIdentity", fn := fun _ => fun
  | [d1, d2] => { results := [.lit (.bool true)], args := [d1, d2] }
  | _ => none }
def tablesIdentityRow : OpenClaim := { program := "ytgpblcddebhphaadoor", sum := "47b4d18c06d18403c2847deec5748079b67654d2aaf5cf42c31f429e8cd03361", func := "tilefarm/tilefarmlaw8.TablesIdentity", spec := "tablesIdentity", named := ["math/bits.deBruijn64tab"], apart := false, laid := [("math/bits.deBruijn64tab", laid_math_bits_deBruijn64tab)] }
def TablesIdentitySaid : Prop := tablesIdentityRow.holds Tryd.pinned (OpenSpec.ofChange tablesIdentitySpec)

/-- ITS FALSE NEIGHBOUR: 'it returns false'. Refute it at one input. -/
def tablesIdentityWrong : ChangeSpec := { name := "tablesIdentity", fn := fun _ => fun
  | [d1, d2] => { results := [.lit (.bool false)], args := [d1, d2] }
  | _ => none }
def TablesIdentityWrongFalsely : Prop := tablesIdentityRow.holds Tryd.pinned (OpenSpec.ofChange tablesIdentityWrong)

/- THE SECOND FORM. 'bulk': how many values and letters a reading holds, each counted each time it is reached (what is shared counts as often as it is met; a slice's spare places count too). A statement '..UptoSaid' is the law's where the arguments, and the package variables that the reading takes, are together of bulk at most 1048576: NARROWER than '..Said'. Prove '..Said' where nothing that the law and all that it calls make is longer than what came in: it says more and counts as full. Else prove '..UptoSaid'. A law counts once. -/
mutual
def uptoBulk {H : Type} : DataW H → Nat
  | .lit (.string bytes) => bytes.length + 1
  | .lit _ => 1
  | .nil => 1
  | .ptr d => uptoBulk d + 1
  | .slice elems spare => uptoBulkAll elems + uptoBulkAll spare + 1
  | .agg parts => uptoBulkAll parts + 1
  | .iface _ d => uptoBulk d + 1
  | .map entries => uptoBulkEntries entries + 1
  | .held _ => 1
def uptoBulkAll {H : Type} : List (DataW H) → Nat
  | [] => 0
  | d :: r => uptoBulk d + uptoBulkAll r
def uptoBulkEntries {H : Type} : List (Lit × DataW H) → Nat
  | [] => 0
  | x :: r => uptoBulkEntry x + uptoBulkEntries r
def uptoBulkEntry {H : Type} : Lit × DataW H → Nat
  | (.string bytes, d) => bytes.length + uptoBulk d + 1
  | (_, d) => uptoBulk d + 1
 end
def uptoSmall : (H : Type) → List (DataW H) → Bool := fun _ ds => decide (uptoBulkAll ds ≤ 1048576)
def OpenSpec.upto (s : _root_.Go.ChangeSpec) : _root_.Go.OpenSpec := { _root_.Go.OpenSpec.ofChange s with cond := some uptoSmall }

/-- 'tilefarmlaw8.TablesValid', WHERE WHAT IT READS IS OF BULK AT MOST 1048576: true; the input reads as it did. -/
def tablesValidUptoRow : OpenClaim := { program := "ytgpblcddebhphaadoor", sum := "47b4d18c06d18403c2847deec5748079b67654d2aaf5cf42c31f429e8cd03361", func := "tilefarm/tilefarmlaw8.TablesValid", spec := "tablesValid", named := ["math/bits.deBruijn64tab"], apart := false, laid := [("math/bits.deBruijn64tab", laid_math_bits_deBruijn64tab)], narrowed := true }
def TablesValidUptoSaid : Prop := tablesValidUptoRow.holds Tryd.pinned (OpenSpec.upto tablesValidSpec)

/-- 'tilefarmlaw8.TablesMake', WHERE WHAT IT READS IS OF BULK AT MOST 1048576: true; the input reads as it did. -/
def tablesMakeUptoRow : OpenClaim := { program := "ytgpblcddebhphaadoor", sum := "47b4d18c06d18403c2847deec5748079b67654d2aaf5cf42c31f429e8cd03361", func := "tilefarm/tilefarmlaw8.TablesMake", spec := "tablesMake", named := ["math/bits.deBruijn64tab"], apart := false, laid := [("math/bits.deBruijn64tab", laid_math_bits_deBruijn64tab)], narrowed := true }
def TablesMakeUptoSaid : Prop := tablesMakeUptoRow.holds Tryd.pinned (OpenSpec.upto tablesMakeSpec)

/-- 'tilefarmlaw8.TablesQuantize', WHERE WHAT IT READS IS OF BULK AT MOST 1048576: true; the input reads as it did. -/
def tablesQuantizeUptoRow : OpenClaim := { program := "ytgpblcddebhphaadoor", sum := "47b4d18c06d18403c2847deec5748079b67654d2aaf5cf42c31f429e8cd03361", func := "tilefarm/tilefarmlaw8.TablesQuantize", spec := "tablesQuantize", named := ["math/bits.deBruijn64tab"], apart := false, laid := [("math/bits.deBruijn64tab", laid_math_bits_deBruijn64tab)], narrowed := true }
def TablesQuantizeUptoSaid : Prop := tablesQuantizeUptoRow.holds Tryd.pinned (OpenSpec.upto tablesQuantizeSpec)

/-- 'tilefarmlaw8.TablesSums', WHERE WHAT IT READS IS OF BULK AT MOST 1048576: true; the input reads as it did. -/
def tablesSumsUptoRow : OpenClaim := { program := "ytgpblcddebhphaadoor", sum := "47b4d18c06d18403c2847deec5748079b67654d2aaf5cf42c31f429e8cd03361", func := "tilefarm/tilefarmlaw8.TablesSums", spec := "tablesSums", named := ["math/bits.deBruijn64tab"], apart := false, laid := [("math/bits.deBruijn64tab", laid_math_bits_deBruijn64tab)], narrowed := true }
def TablesSumsUptoSaid : Prop := tablesSumsUptoRow.holds Tryd.pinned (OpenSpec.upto tablesSumsSpec)

/-- 'tilefarmlaw8.TablesIdentity', WHERE WHAT IT READS IS OF BULK AT MOST 1048576: true; the input reads as it did. -/
def tablesIdentityUptoRow : OpenClaim := { program := "ytgpblcddebhphaadoor", sum := "47b4d18c06d18403c2847deec5748079b67654d2aaf5cf42c31f429e8cd03361", func := "tilefarm/tilefarmlaw8.TablesIdentity", spec := "tablesIdentity", named := ["math/bits.deBruijn64tab"], apart := false, laid := [("math/bits.deBruijn64tab", laid_math_bits_deBruijn64tab)], narrowed := true }
def TablesIdentityUptoSaid : Prop := tablesIdentityUptoRow.holds Tryd.pinned (OpenSpec.upto tablesIdentitySpec)

end Rows
end Go.Proofs.YtgpblcddebhphaaDoor
