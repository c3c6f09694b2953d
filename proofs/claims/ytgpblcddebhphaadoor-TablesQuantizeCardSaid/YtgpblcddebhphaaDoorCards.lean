/-
  DERIVED. GIVEN WITH THE SEED: THE CARDS: each row of YtgpblcddebhphaaDoorRows.lean that lists a variable, with what it lists TIED to the program's text (the seventh form; the later family's looks); each row that meets fmt, with fmt's text TOLD by the authors' own Lean function (tested against real Go, not proved from fmt's source: count such statements apart). THE CARD IS WHAT COUNTS. Prove the row's statement (the work); the ties are given (YtgpblcddebhphaaDoorTie.lean); close each card by the builder's one call (the guide's Derived/Test/ToyasCard.lean, 'card_holds'). Laid BY PROGRAM, IN A SANDBOX (cutbox-door.mjs). By AI agents, Wed Nov 11 2026. No macro, syntax, notation, axiom, sorry.
-/
import Derived.Test.YtgpblcddebhphaaDoorRows
import GoSem.ClaimSeven
namespace Go.Proofs.YtgpblcddebhphaaDoor
namespace Rows

/-- THE TIED CARD OF 'tilefarmlaw8.TablesValid'. -/
def tablesValidCard : Claim7 := { stood := { row := tablesValidRow, standIns := [], harness := (true, "e143fbeeb02970f49810a8c34d4deedb5ff99df8b4a9dec43950c5189c68212b"), looks := false }, kinds := [], alts := [], laidByText := true, laidKinds := [.data], laidTests := true, laidLooks := .later }
def TablesValidCardSaid : Prop := Claim7.holds Tryd.pinned (.plain (OpenSpec.ofChange tablesValidSpec)) tablesValidCard

/-- THE TIED CARD OF 'tilefarmlaw8.TablesMake'. -/
def tablesMakeCard : Claim7 := { stood := { row := tablesMakeRow, standIns := [], harness := (true, "e143fbeeb02970f49810a8c34d4deedb5ff99df8b4a9dec43950c5189c68212b"), looks := false }, kinds := [], alts := [], laidByText := true, laidKinds := [.data], laidTests := true, laidLooks := .later }
def TablesMakeCardSaid : Prop := Claim7.holds Tryd.pinned (.plain (OpenSpec.ofChange tablesMakeSpec)) tablesMakeCard

/-- THE TIED CARD OF 'tilefarmlaw8.TablesQuantize'. -/
def tablesQuantizeCard : Claim7 := { stood := { row := tablesQuantizeRow, standIns := [], harness := (true, "e143fbeeb02970f49810a8c34d4deedb5ff99df8b4a9dec43950c5189c68212b"), looks := false }, kinds := [], alts := [], laidByText := true, laidKinds := [.data], laidTests := true, laidLooks := .later }
def TablesQuantizeCardSaid : Prop := Claim7.holds Tryd.pinned (.plain (OpenSpec.ofChange tablesQuantizeSpec)) tablesQuantizeCard

/-- THE TIED CARD OF 'tilefarmlaw8.TablesSums'. -/
def tablesSumsCard : Claim7 := { stood := { row := tablesSumsRow, standIns := [], harness := (true, "e143fbeeb02970f49810a8c34d4deedb5ff99df8b4a9dec43950c5189c68212b"), looks := false }, kinds := [], alts := [], laidByText := true, laidKinds := [.data], laidTests := true, laidLooks := .later }
def TablesSumsCardSaid : Prop := Claim7.holds Tryd.pinned (.plain (OpenSpec.ofChange tablesSumsSpec)) tablesSumsCard

/-- THE TIED CARD OF 'tilefarmlaw8.TablesIdentity'. -/
def tablesIdentityCard : Claim7 := { stood := { row := tablesIdentityRow, standIns := [], harness := (true, "e143fbeeb02970f49810a8c34d4deedb5ff99df8b4a9dec43950c5189c68212b"), looks := false }, kinds := [], alts := [], laidByText := true, laidKinds := [.data], laidTests := true, laidLooks := .later }
def TablesIdentityCardSaid : Prop := Claim7.holds Tryd.pinned (.plain (OpenSpec.ofChange tablesIdentitySpec)) tablesIdentityCard

/-- THE SECOND FORM's CARD OF 'tilefarmlaw8.TablesValid'. -/
def tablesValidUptoCard : Claim7 := { stood := { row := tablesValidUptoRow, standIns := [], harness := (true, "e143fbeeb02970f49810a8c34d4deedb5ff99df8b4a9dec43950c5189c68212b"), looks := false }, kinds := [], alts := [], laidByText := true, laidKinds := [.data], laidTests := true, laidLooks := .later }
def TablesValidUptoCardSaid : Prop := Claim7.holds Tryd.pinned (.plain (OpenSpec.upto tablesValidSpec)) tablesValidUptoCard

/-- THE SECOND FORM's CARD OF 'tilefarmlaw8.TablesMake'. -/
def tablesMakeUptoCard : Claim7 := { stood := { row := tablesMakeUptoRow, standIns := [], harness := (true, "e143fbeeb02970f49810a8c34d4deedb5ff99df8b4a9dec43950c5189c68212b"), looks := false }, kinds := [], alts := [], laidByText := true, laidKinds := [.data], laidTests := true, laidLooks := .later }
def TablesMakeUptoCardSaid : Prop := Claim7.holds Tryd.pinned (.plain (OpenSpec.upto tablesMakeSpec)) tablesMakeUptoCard

/-- THE SECOND FORM's CARD OF 'tilefarmlaw8.TablesQuantize'. -/
def tablesQuantizeUptoCard : Claim7 := { stood := { row := tablesQuantizeUptoRow, standIns := [], harness := (true, "e143fbeeb02970f49810a8c34d4deedb5ff99df8b4a9dec43950c5189c68212b"), looks := false }, kinds := [], alts := [], laidByText := true, laidKinds := [.data], laidTests := true, laidLooks := .later }
def TablesQuantizeUptoCardSaid : Prop := Claim7.holds Tryd.pinned (.plain (OpenSpec.upto tablesQuantizeSpec)) tablesQuantizeUptoCard

/-- THE SECOND FORM's CARD OF 'tilefarmlaw8.TablesSums'. -/
def tablesSumsUptoCard : Claim7 := { stood := { row := tablesSumsUptoRow, standIns := [], harness := (true, "e143fbeeb02970f49810a8c34d4deedb5ff99df8b4a9dec43950c5189c68212b"), looks := false }, kinds := [], alts := [], laidByText := true, laidKinds := [.data], laidTests := true, laidLooks := .later }
def TablesSumsUptoCardSaid : Prop := Claim7.holds Tryd.pinned (.plain (OpenSpec.upto tablesSumsSpec)) tablesSumsUptoCard

/-- THE SECOND FORM's CARD OF 'tilefarmlaw8.TablesIdentity'. -/
def tablesIdentityUptoCard : Claim7 := { stood := { row := tablesIdentityUptoRow, standIns := [], harness := (true, "e143fbeeb02970f49810a8c34d4deedb5ff99df8b4a9dec43950c5189c68212b"), looks := false }, kinds := [], alts := [], laidByText := true, laidKinds := [.data], laidTests := true, laidLooks := .later }
def TablesIdentityUptoCardSaid : Prop := Claim7.holds Tryd.pinned (.plain (OpenSpec.upto tablesIdentitySpec)) tablesIdentityUptoCard
end Rows
end Go.Proofs.YtgpblcddebhphaaDoor
