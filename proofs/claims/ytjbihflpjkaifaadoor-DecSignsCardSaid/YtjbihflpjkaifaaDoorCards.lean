/-
  DERIVED. GIVEN WITH THE SEED: THE CARDS: each row of YtjbihflpjkaifaaDoorRows.lean that lists a variable, with what it lists TIED to the program's text (the seventh form; the later family's looks); each row that meets fmt, with fmt's text TOLD by the authors' own Lean function (tested against real Go, not proved from fmt's source: count such statements apart). THE CARD IS WHAT COUNTS. Prove the row's statement (the work); the ties are given (YtjbihflpjkaifaaDoorTie.lean); close each card by the builder's one call (the guide's Derived/Test/ToyasCard.lean, 'card_holds'). Laid BY PROGRAM, IN A SANDBOX (cutbox-door.mjs). By AI agents, Wed Nov 11 2026. No macro, syntax, notation, axiom, sorry.
-/
import Derived.Test.YtjbihflpjkaifaaDoorRows
import GoSem.ClaimSeven
namespace Go.Proofs.YtjbihflpjkaifaaDoor
namespace Rows

/-- THE TIED CARD OF 'interlocutorlaw2.DecNorms'. -/
def decNormsCard : Claim7 := { stood := { row := decNormsRow, standIns := [], harness := (true, "7b125b89bf2e01da3ebcb68104189d82b5efa434e123d26807a62d3ab97a4402"), looks := false }, kinds := [], alts := [], laidByText := true, laidKinds := [.data, .data, .data], laidTests := true, laidLooks := .later }
def DecNormsCardSaid : Prop := Claim7.holds Tryd.pinned (.plain (OpenSpec.ofChange decNormsSpec)) decNormsCard

/-- THE TIED CARD OF 'interlocutorlaw2.DecScales'. -/
def decScalesCard : Claim7 := { stood := { row := decScalesRow, standIns := [], harness := (true, "7b125b89bf2e01da3ebcb68104189d82b5efa434e123d26807a62d3ab97a4402"), looks := false }, kinds := [], alts := [], laidByText := true, laidKinds := [.data, .data, .data], laidTests := true, laidLooks := .later }
def DecScalesCardSaid : Prop := Claim7.holds Tryd.pinned (.plain (OpenSpec.ofChange decScalesSpec)) decScalesCard

/-- THE TIED CARD OF 'interlocutorlaw2.DecTexts'. -/
def decTextsCard : Claim7 := { stood := { row := decTextsRow, standIns := [], harness := (true, "7b125b89bf2e01da3ebcb68104189d82b5efa434e123d26807a62d3ab97a4402"), looks := false }, kinds := [], alts := [], laidByText := true, laidKinds := [.data, .data, .data], laidTests := true, laidLooks := .later }
def DecTextsCardSaid : Prop := Claim7.holds Tryd.pinned (.plain (OpenSpec.ofChange decTextsSpec)) decTextsCard

/-- THE TIED CARD OF 'interlocutorlaw2.DecOrders'. -/
def decOrdersCard : Claim7 := { stood := { row := decOrdersRow, standIns := [], harness := (true, "7b125b89bf2e01da3ebcb68104189d82b5efa434e123d26807a62d3ab97a4402"), looks := false }, kinds := [], alts := [], laidByText := true, laidKinds := [.data, .data, .data], laidTests := true, laidLooks := .later }
def DecOrdersCardSaid : Prop := Claim7.holds Tryd.pinned (.plain (OpenSpec.ofChange decOrdersSpec)) decOrdersCard

/-- THE TIED CARD OF 'interlocutorlaw2.DecNear'. -/
def decNearCard : Claim7 := { stood := { row := decNearRow, standIns := [], harness := (true, "7b125b89bf2e01da3ebcb68104189d82b5efa434e123d26807a62d3ab97a4402"), looks := false }, kinds := [], alts := [], laidByText := true, laidKinds := [.data, .data, .data], laidTests := true, laidLooks := .later }
def DecNearCardSaid : Prop := Claim7.holds Tryd.pinned (.plain (OpenSpec.ofChange decNearSpec)) decNearCard

/-- THE TIED CARD OF 'interlocutorlaw2.DecWhole'. -/
def decWholeCard : Claim7 := { stood := { row := decWholeRow, standIns := [], harness := (true, "7b125b89bf2e01da3ebcb68104189d82b5efa434e123d26807a62d3ab97a4402"), looks := false }, kinds := [], alts := [], laidByText := true, laidKinds := [.data, .data, .data], laidTests := true, laidLooks := .later }
def DecWholeCardSaid : Prop := Claim7.holds Tryd.pinned (.plain (OpenSpec.ofChange decWholeSpec)) decWholeCard

/-- THE TIED CARD OF 'interlocutorlaw2.DecParts'. -/
def decPartsCard : Claim7 := { stood := { row := decPartsRow, standIns := [], harness := (true, "7b125b89bf2e01da3ebcb68104189d82b5efa434e123d26807a62d3ab97a4402"), looks := false }, kinds := [], alts := [], laidByText := true, laidKinds := [.data, .data, .data], laidTests := true, laidLooks := .later }
def DecPartsCardSaid : Prop := Claim7.holds Tryd.pinned (.plain (OpenSpec.ofChange decPartsSpec)) decPartsCard

/-- THE TIED CARD OF 'interlocutorlaw2.DecSigns'. -/
def decSignsCard : Claim7 := { stood := { row := decSignsRow, standIns := [], harness := (true, "7b125b89bf2e01da3ebcb68104189d82b5efa434e123d26807a62d3ab97a4402"), looks := false }, kinds := [], alts := [], laidByText := true, laidKinds := [.data, .data, .data], laidTests := true, laidLooks := .later }
def DecSignsCardSaid : Prop := Claim7.holds Tryd.pinned (.plain (OpenSpec.ofChange decSignsSpec)) decSignsCard

/-- THE TIED CARD OF 'interlocutorlaw2.DecMore'. -/
def decMoreCard : Claim7 := { stood := { row := decMoreRow, standIns := [], harness := (true, "7b125b89bf2e01da3ebcb68104189d82b5efa434e123d26807a62d3ab97a4402"), looks := false }, kinds := [], alts := [], laidByText := true, laidKinds := [.data, .data, .data], laidTests := true, laidLooks := .later }
def DecMoreCardSaid : Prop := Claim7.holds Tryd.pinned (.plain (OpenSpec.ofChange decMoreSpec)) decMoreCard

/-- THE TIED CARD OF 'interlocutorlaw2.DecKnown'. -/
def decKnownCard : Claim7 := { stood := { row := decKnownRow, standIns := [], harness := (true, "7b125b89bf2e01da3ebcb68104189d82b5efa434e123d26807a62d3ab97a4402"), looks := false }, kinds := [], alts := [], laidByText := true, laidKinds := [.data, .data, .data], laidTests := true, laidLooks := .later }
def DecKnownCardSaid : Prop := Claim7.holds Tryd.pinned (.plain (OpenSpec.ofChange decKnownSpec)) decKnownCard

/-- THE SECOND FORM's CARD OF 'interlocutorlaw2.DecNorms'. -/
def decNormsUptoCard : Claim7 := { stood := { row := decNormsUptoRow, standIns := [], harness := (true, "7b125b89bf2e01da3ebcb68104189d82b5efa434e123d26807a62d3ab97a4402"), looks := false }, kinds := [], alts := [], laidByText := true, laidKinds := [.data, .data, .data], laidTests := true, laidLooks := .later }
def DecNormsUptoCardSaid : Prop := Claim7.holds Tryd.pinned (.plain (OpenSpec.upto decNormsSpec)) decNormsUptoCard

/-- THE SECOND FORM's CARD OF 'interlocutorlaw2.DecScales'. -/
def decScalesUptoCard : Claim7 := { stood := { row := decScalesUptoRow, standIns := [], harness := (true, "7b125b89bf2e01da3ebcb68104189d82b5efa434e123d26807a62d3ab97a4402"), looks := false }, kinds := [], alts := [], laidByText := true, laidKinds := [.data, .data, .data], laidTests := true, laidLooks := .later }
def DecScalesUptoCardSaid : Prop := Claim7.holds Tryd.pinned (.plain (OpenSpec.upto decScalesSpec)) decScalesUptoCard

/-- THE SECOND FORM's CARD OF 'interlocutorlaw2.DecTexts'. -/
def decTextsUptoCard : Claim7 := { stood := { row := decTextsUptoRow, standIns := [], harness := (true, "7b125b89bf2e01da3ebcb68104189d82b5efa434e123d26807a62d3ab97a4402"), looks := false }, kinds := [], alts := [], laidByText := true, laidKinds := [.data, .data, .data], laidTests := true, laidLooks := .later }
def DecTextsUptoCardSaid : Prop := Claim7.holds Tryd.pinned (.plain (OpenSpec.upto decTextsSpec)) decTextsUptoCard

/-- THE SECOND FORM's CARD OF 'interlocutorlaw2.DecOrders'. -/
def decOrdersUptoCard : Claim7 := { stood := { row := decOrdersUptoRow, standIns := [], harness := (true, "7b125b89bf2e01da3ebcb68104189d82b5efa434e123d26807a62d3ab97a4402"), looks := false }, kinds := [], alts := [], laidByText := true, laidKinds := [.data, .data, .data], laidTests := true, laidLooks := .later }
def DecOrdersUptoCardSaid : Prop := Claim7.holds Tryd.pinned (.plain (OpenSpec.upto decOrdersSpec)) decOrdersUptoCard

/-- THE SECOND FORM's CARD OF 'interlocutorlaw2.DecNear'. -/
def decNearUptoCard : Claim7 := { stood := { row := decNearUptoRow, standIns := [], harness := (true, "7b125b89bf2e01da3ebcb68104189d82b5efa434e123d26807a62d3ab97a4402"), looks := false }, kinds := [], alts := [], laidByText := true, laidKinds := [.data, .data, .data], laidTests := true, laidLooks := .later }
def DecNearUptoCardSaid : Prop := Claim7.holds Tryd.pinned (.plain (OpenSpec.upto decNearSpec)) decNearUptoCard

/-- THE SECOND FORM's CARD OF 'interlocutorlaw2.DecWhole'. -/
def decWholeUptoCard : Claim7 := { stood := { row := decWholeUptoRow, standIns := [], harness := (true, "7b125b89bf2e01da3ebcb68104189d82b5efa434e123d26807a62d3ab97a4402"), looks := false }, kinds := [], alts := [], laidByText := true, laidKinds := [.data, .data, .data], laidTests := true, laidLooks := .later }
def DecWholeUptoCardSaid : Prop := Claim7.holds Tryd.pinned (.plain (OpenSpec.upto decWholeSpec)) decWholeUptoCard

/-- THE SECOND FORM's CARD OF 'interlocutorlaw2.DecParts'. -/
def decPartsUptoCard : Claim7 := { stood := { row := decPartsUptoRow, standIns := [], harness := (true, "7b125b89bf2e01da3ebcb68104189d82b5efa434e123d26807a62d3ab97a4402"), looks := false }, kinds := [], alts := [], laidByText := true, laidKinds := [.data, .data, .data], laidTests := true, laidLooks := .later }
def DecPartsUptoCardSaid : Prop := Claim7.holds Tryd.pinned (.plain (OpenSpec.upto decPartsSpec)) decPartsUptoCard

/-- THE SECOND FORM's CARD OF 'interlocutorlaw2.DecSigns'. -/
def decSignsUptoCard : Claim7 := { stood := { row := decSignsUptoRow, standIns := [], harness := (true, "7b125b89bf2e01da3ebcb68104189d82b5efa434e123d26807a62d3ab97a4402"), looks := false }, kinds := [], alts := [], laidByText := true, laidKinds := [.data, .data, .data], laidTests := true, laidLooks := .later }
def DecSignsUptoCardSaid : Prop := Claim7.holds Tryd.pinned (.plain (OpenSpec.upto decSignsSpec)) decSignsUptoCard

/-- THE SECOND FORM's CARD OF 'interlocutorlaw2.DecMore'. -/
def decMoreUptoCard : Claim7 := { stood := { row := decMoreUptoRow, standIns := [], harness := (true, "7b125b89bf2e01da3ebcb68104189d82b5efa434e123d26807a62d3ab97a4402"), looks := false }, kinds := [], alts := [], laidByText := true, laidKinds := [.data, .data, .data], laidTests := true, laidLooks := .later }
def DecMoreUptoCardSaid : Prop := Claim7.holds Tryd.pinned (.plain (OpenSpec.upto decMoreSpec)) decMoreUptoCard

/-- THE SECOND FORM's CARD OF 'interlocutorlaw2.DecKnown'. -/
def decKnownUptoCard : Claim7 := { stood := { row := decKnownUptoRow, standIns := [], harness := (true, "7b125b89bf2e01da3ebcb68104189d82b5efa434e123d26807a62d3ab97a4402"), looks := false }, kinds := [], alts := [], laidByText := true, laidKinds := [.data, .data, .data], laidTests := true, laidLooks := .later }
def DecKnownUptoCardSaid : Prop := Claim7.holds Tryd.pinned (.plain (OpenSpec.upto decKnownSpec)) decKnownUptoCard
end Rows
end Go.Proofs.YtjbihflpjkaifaaDoor
