/-
  DERIVED. GIVEN WITH THE SEED: THE CARDS: each row of YtjijikgandkphaaGreatDoorRows.lean that lists a variable, with what it lists TIED to the program's text (the seventh form; the later family's looks); each row that meets fmt, with fmt's text TOLD by the authors' own Lean function (tested against real Go, not proved from fmt's source: count such statements apart). THE CARD IS WHAT COUNTS. Prove the row's statement (the work); the ties are given (YtjijikgandkphaaGreatDoorTie.lean); close each card by the builder's one call (the guide's Derived/Test/ToyasCard.lean, 'card_holds'). Laid BY PROGRAM, IN A SANDBOX (cutbox-door.mjs). By AI agents, Wed Nov 11 2026. No macro, syntax, notation, axiom, sorry.
-/
import Derived.Test.YtjijikgandkphaaGreatDoorRows
import GoSem.ClaimSeven
namespace Go.Proofs.YtjijikgandkphaaGreatDoor
namespace Rows

/-- THE TIED CARD OF 'interlocutorlaw11.RenderAll'. -/
def renderAllCard : Claim7 := { stood := { row := renderAllRow, standIns := [], harness := (true, "334b2b11e2c598bc46add993e02f30f8bc56a241e70e50b62bb55de6f1a8d56a"), looks := false }, kinds := [], alts := [], laidByText := true, laidKinds := [.data, .data, .data], laidTests := true, laidLooks := .later }
def RenderAllCardSaid : Prop := Claim7.holds Tryz.pinned (.plain (OpenSpec.ofChange renderAllSpec)) renderAllCard

/-- THE TIED CARD OF 'interlocutorlaw11.RenderDigits'. -/
def renderDigitsCard : Claim7 := { stood := { row := renderDigitsRow, standIns := [], harness := (true, "334b2b11e2c598bc46add993e02f30f8bc56a241e70e50b62bb55de6f1a8d56a"), looks := false }, kinds := [], alts := [], laidByText := true, laidKinds := [.data, .data, .data], laidTests := true, laidLooks := .later }
def RenderDigitsCardSaid : Prop := Claim7.holds Tryz.pinned (.plain (OpenSpec.ofChange renderDigitsSpec)) renderDigitsCard

/-- THE TIED CARD OF 'interlocutorlaw11.RenderRange'. -/
def renderRangeCard : Claim7 := { stood := { row := renderRangeRow, standIns := [], harness := (true, "334b2b11e2c598bc46add993e02f30f8bc56a241e70e50b62bb55de6f1a8d56a"), looks := false }, kinds := [], alts := [], laidByText := true, laidKinds := [.data, .data, .data], laidTests := true, laidLooks := .later }
def RenderRangeCardSaid : Prop := Claim7.holds Tryz.pinned (.plain (OpenSpec.ofChange renderRangeSpec)) renderRangeCard

/-- THE TIED CARD OF 'interlocutorlaw11.RenderParts'. -/
def renderPartsCard : Claim7 := { stood := { row := renderPartsRow, standIns := [], harness := (true, "334b2b11e2c598bc46add993e02f30f8bc56a241e70e50b62bb55de6f1a8d56a"), looks := false }, kinds := [], alts := [], laidByText := true, laidKinds := [.data, .data, .data], laidTests := true, laidLooks := .later }
def RenderPartsCardSaid : Prop := Claim7.holds Tryz.pinned (.plain (OpenSpec.ofChange renderPartsSpec)) renderPartsCard

/-- THE TIED CARD OF 'interlocutorlaw11.RenderWidths'. -/
def renderWidthsCard : Claim7 := { stood := { row := renderWidthsRow, standIns := [], harness := (true, "334b2b11e2c598bc46add993e02f30f8bc56a241e70e50b62bb55de6f1a8d56a"), looks := false }, kinds := [], alts := [], laidByText := true, laidKinds := [.data, .data, .data], laidTests := true, laidLooks := .later }
def RenderWidthsCardSaid : Prop := Claim7.holds Tryz.pinned (.plain (OpenSpec.ofChange renderWidthsSpec)) renderWidthsCard

/-- THE TIED CARD OF 'interlocutorlaw11.RenderOwn'. -/
def renderOwnCard : Claim7 := { stood := { row := renderOwnRow, standIns := [], harness := (true, "334b2b11e2c598bc46add993e02f30f8bc56a241e70e50b62bb55de6f1a8d56a"), looks := false }, kinds := [], alts := [], laidByText := true, laidKinds := [.data, .data, .data], laidTests := true, laidLooks := .later }
def RenderOwnCardSaid : Prop := Claim7.holds Tryz.pinned (.plain (OpenSpec.ofChange renderOwnSpec)) renderOwnCard

/-- THE SECOND FORM's CARD OF 'interlocutorlaw11.RenderAll'. -/
def renderAllUptoCard : Claim7 := { stood := { row := renderAllUptoRow, standIns := [], harness := (true, "334b2b11e2c598bc46add993e02f30f8bc56a241e70e50b62bb55de6f1a8d56a"), looks := false }, kinds := [], alts := [], laidByText := true, laidKinds := [.data, .data, .data], laidTests := true, laidLooks := .later }
def RenderAllUptoCardSaid : Prop := Claim7.holds Tryz.pinned (.plain (OpenSpec.upto renderAllSpec)) renderAllUptoCard

/-- THE SECOND FORM's CARD OF 'interlocutorlaw11.RenderDigits'. -/
def renderDigitsUptoCard : Claim7 := { stood := { row := renderDigitsUptoRow, standIns := [], harness := (true, "334b2b11e2c598bc46add993e02f30f8bc56a241e70e50b62bb55de6f1a8d56a"), looks := false }, kinds := [], alts := [], laidByText := true, laidKinds := [.data, .data, .data], laidTests := true, laidLooks := .later }
def RenderDigitsUptoCardSaid : Prop := Claim7.holds Tryz.pinned (.plain (OpenSpec.upto renderDigitsSpec)) renderDigitsUptoCard

/-- THE SECOND FORM's CARD OF 'interlocutorlaw11.RenderRange'. -/
def renderRangeUptoCard : Claim7 := { stood := { row := renderRangeUptoRow, standIns := [], harness := (true, "334b2b11e2c598bc46add993e02f30f8bc56a241e70e50b62bb55de6f1a8d56a"), looks := false }, kinds := [], alts := [], laidByText := true, laidKinds := [.data, .data, .data], laidTests := true, laidLooks := .later }
def RenderRangeUptoCardSaid : Prop := Claim7.holds Tryz.pinned (.plain (OpenSpec.upto renderRangeSpec)) renderRangeUptoCard

/-- THE SECOND FORM's CARD OF 'interlocutorlaw11.RenderParts'. -/
def renderPartsUptoCard : Claim7 := { stood := { row := renderPartsUptoRow, standIns := [], harness := (true, "334b2b11e2c598bc46add993e02f30f8bc56a241e70e50b62bb55de6f1a8d56a"), looks := false }, kinds := [], alts := [], laidByText := true, laidKinds := [.data, .data, .data], laidTests := true, laidLooks := .later }
def RenderPartsUptoCardSaid : Prop := Claim7.holds Tryz.pinned (.plain (OpenSpec.upto renderPartsSpec)) renderPartsUptoCard

/-- THE SECOND FORM's CARD OF 'interlocutorlaw11.RenderWidths'. -/
def renderWidthsUptoCard : Claim7 := { stood := { row := renderWidthsUptoRow, standIns := [], harness := (true, "334b2b11e2c598bc46add993e02f30f8bc56a241e70e50b62bb55de6f1a8d56a"), looks := false }, kinds := [], alts := [], laidByText := true, laidKinds := [.data, .data, .data], laidTests := true, laidLooks := .later }
def RenderWidthsUptoCardSaid : Prop := Claim7.holds Tryz.pinned (.plain (OpenSpec.upto renderWidthsSpec)) renderWidthsUptoCard

/-- THE SECOND FORM's CARD OF 'interlocutorlaw11.RenderOwn'. -/
def renderOwnUptoCard : Claim7 := { stood := { row := renderOwnUptoRow, standIns := [], harness := (true, "334b2b11e2c598bc46add993e02f30f8bc56a241e70e50b62bb55de6f1a8d56a"), looks := false }, kinds := [], alts := [], laidByText := true, laidKinds := [.data, .data, .data], laidTests := true, laidLooks := .later }
def RenderOwnUptoCardSaid : Prop := Claim7.holds Tryz.pinned (.plain (OpenSpec.upto renderOwnSpec)) renderOwnUptoCard
end Rows
end Go.Proofs.YtjijikgandkphaaGreatDoor
