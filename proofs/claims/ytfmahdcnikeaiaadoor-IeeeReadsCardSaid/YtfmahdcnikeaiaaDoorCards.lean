/-
  DERIVED. GIVEN WITH THE SEED: THE CARDS: each row of YtfmahdcnikeaiaaDoorRows.lean that lists a variable, with what it lists TIED to the program's text (the seventh form; the later family's looks); each row that meets fmt, with fmt's text TOLD by the authors' own Lean function (tested against real Go, not proved from fmt's source: count such statements apart). THE CARD IS WHAT COUNTS. Prove the row's statement (the work); the ties are given (YtfmahdcnikeaiaaDoorTie.lean); close each card by the builder's one call (the guide's Derived/Test/ToyasCard.lean, 'card_holds'). Laid BY PROGRAM, IN A SANDBOX (cutbox-door.mjs). By AI agents, Wed Nov 11 2026. No macro, syntax, notation, axiom, sorry.
-/
import Derived.Test.YtfmahdcnikeaiaaDoorRows
import GoSem.ClaimSeven
namespace Go.Proofs.YtfmahdcnikeaiaaDoor
namespace Rows

/-- THE TIED CARD OF 'tilefarmlaw6.IeeeScales'. -/
def ieeeScalesCard : Claim7 := { stood := { row := ieeeScalesRow, standIns := [], harness := (true, "c704523dcb8735176069b2a268903a00211a4413cc78e9b06d752e96ef905f1a"), looks := false }, kinds := [], alts := [], laidByText := true, laidKinds := [.data], laidTests := true, laidLooks := .later }
def IeeeScalesCardSaid : Prop := Claim7.holds Tryd.pinned (.plain (OpenSpec.ofChange ieeeScalesSpec)) ieeeScalesCard

/-- THE TIED CARD OF 'tilefarmlaw6.IeeeQuantizes'. -/
def ieeeQuantizesCard : Claim7 := { stood := { row := ieeeQuantizesRow, standIns := [], harness := (true, "c704523dcb8735176069b2a268903a00211a4413cc78e9b06d752e96ef905f1a"), looks := false }, kinds := [], alts := [], laidByText := true, laidKinds := [.data], laidTests := true, laidLooks := .later }
def IeeeQuantizesCardSaid : Prop := Claim7.holds Tryd.pinned (.plain (OpenSpec.ofChange ieeeQuantizesSpec)) ieeeQuantizesCard

/-- THE TIED CARD OF 'tilefarmlaw6.IeeeReads'. -/
def ieeeReadsCard : Claim7 := { stood := { row := ieeeReadsRow, standIns := [], harness := (true, "c704523dcb8735176069b2a268903a00211a4413cc78e9b06d752e96ef905f1a"), looks := false }, kinds := [], alts := [], laidByText := true, laidKinds := [.data], laidTests := true, laidLooks := .later }
def IeeeReadsCardSaid : Prop := Claim7.holds Tryd.pinned (.plain (OpenSpec.ofChange ieeeReadsSpec)) ieeeReadsCard

/-- THE TIED CARD OF 'tilefarmlaw6.IeeeExact'. -/
def ieeeExactCard : Claim7 := { stood := { row := ieeeExactRow, standIns := [], harness := (true, "c704523dcb8735176069b2a268903a00211a4413cc78e9b06d752e96ef905f1a"), looks := false }, kinds := [], alts := [], laidByText := true, laidKinds := [.data], laidTests := true, laidLooks := .later }
def IeeeExactCardSaid : Prop := Claim7.holds Tryd.pinned (.plain (OpenSpec.ofChange ieeeExactSpec)) ieeeExactCard

/-- THE TIED CARD OF 'tilefarmlaw6.IeeeSigns'. -/
def ieeeSignsCard : Claim7 := { stood := { row := ieeeSignsRow, standIns := [], harness := (true, "c704523dcb8735176069b2a268903a00211a4413cc78e9b06d752e96ef905f1a"), looks := false }, kinds := [], alts := [], laidByText := true, laidKinds := [.data], laidTests := true, laidLooks := .later }
def IeeeSignsCardSaid : Prop := Claim7.holds Tryd.pinned (.plain (OpenSpec.ofChange ieeeSignsSpec)) ieeeSignsCard

/-- THE SECOND FORM's CARD OF 'tilefarmlaw6.IeeeScales'. -/
def ieeeScalesUptoCard : Claim7 := { stood := { row := ieeeScalesUptoRow, standIns := [], harness := (true, "c704523dcb8735176069b2a268903a00211a4413cc78e9b06d752e96ef905f1a"), looks := false }, kinds := [], alts := [], laidByText := true, laidKinds := [.data], laidTests := true, laidLooks := .later }
def IeeeScalesUptoCardSaid : Prop := Claim7.holds Tryd.pinned (.plain (OpenSpec.upto ieeeScalesSpec)) ieeeScalesUptoCard

/-- THE SECOND FORM's CARD OF 'tilefarmlaw6.IeeeQuantizes'. -/
def ieeeQuantizesUptoCard : Claim7 := { stood := { row := ieeeQuantizesUptoRow, standIns := [], harness := (true, "c704523dcb8735176069b2a268903a00211a4413cc78e9b06d752e96ef905f1a"), looks := false }, kinds := [], alts := [], laidByText := true, laidKinds := [.data], laidTests := true, laidLooks := .later }
def IeeeQuantizesUptoCardSaid : Prop := Claim7.holds Tryd.pinned (.plain (OpenSpec.upto ieeeQuantizesSpec)) ieeeQuantizesUptoCard

/-- THE SECOND FORM's CARD OF 'tilefarmlaw6.IeeeReads'. -/
def ieeeReadsUptoCard : Claim7 := { stood := { row := ieeeReadsUptoRow, standIns := [], harness := (true, "c704523dcb8735176069b2a268903a00211a4413cc78e9b06d752e96ef905f1a"), looks := false }, kinds := [], alts := [], laidByText := true, laidKinds := [.data], laidTests := true, laidLooks := .later }
def IeeeReadsUptoCardSaid : Prop := Claim7.holds Tryd.pinned (.plain (OpenSpec.upto ieeeReadsSpec)) ieeeReadsUptoCard

/-- THE SECOND FORM's CARD OF 'tilefarmlaw6.IeeeExact'. -/
def ieeeExactUptoCard : Claim7 := { stood := { row := ieeeExactUptoRow, standIns := [], harness := (true, "c704523dcb8735176069b2a268903a00211a4413cc78e9b06d752e96ef905f1a"), looks := false }, kinds := [], alts := [], laidByText := true, laidKinds := [.data], laidTests := true, laidLooks := .later }
def IeeeExactUptoCardSaid : Prop := Claim7.holds Tryd.pinned (.plain (OpenSpec.upto ieeeExactSpec)) ieeeExactUptoCard

/-- THE SECOND FORM's CARD OF 'tilefarmlaw6.IeeeSigns'. -/
def ieeeSignsUptoCard : Claim7 := { stood := { row := ieeeSignsUptoRow, standIns := [], harness := (true, "c704523dcb8735176069b2a268903a00211a4413cc78e9b06d752e96ef905f1a"), looks := false }, kinds := [], alts := [], laidByText := true, laidKinds := [.data], laidTests := true, laidLooks := .later }
def IeeeSignsUptoCardSaid : Prop := Claim7.holds Tryd.pinned (.plain (OpenSpec.upto ieeeSignsSpec)) ieeeSignsUptoCard
end Rows
end Go.Proofs.YtfmahdcnikeaiaaDoor
