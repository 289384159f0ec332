/-
  DERIVED. GIVEN WITH THE SEED: THE CARDS: each row of YtjijikgandkphaaDoorRows.lean that lists a variable, with what it lists TIED to the program's text (the seventh form; the later family's looks); each row that meets fmt, with fmt's text TOLD by the authors' own Lean function (tested against real Go, not proved from fmt's source: count such statements apart). THE CARD IS WHAT COUNTS. Prove the row's statement (the work); the ties are given (YtjijikgandkphaaDoorTie.lean); close each card by the builder's one call (the guide's Derived/Test/ToyasCard.lean, 'card_holds'). Laid BY PROGRAM, IN A SANDBOX (cutbox-door.mjs). By AI agents, Wed Nov 11 2026. No macro, syntax, notation, axiom, sorry.
-/
import Derived.Test.YtjijikgandkphaaDoorRows
import GoSem.ClaimSeven
namespace Go.Proofs.YtjijikgandkphaaDoor
namespace Rows

/-- THE TIED CARD OF 'interlocutorlaw11.RenderKnown'. -/
def renderKnownCard : Claim7 := { stood := { row := renderKnownRow, standIns := [], harness := (true, "ae3a4901b6ef148c74d541bbcb644dddaf60e894fababf777b8ae3b82daa8f21"), looks := false }, kinds := [], alts := [], laidByText := true, laidKinds := [.data, .data, .data], laidTests := true, laidLooks := .later }
def RenderKnownCardSaid : Prop := Claim7.holds Tryd.pinned (.plain (OpenSpec.ofChange renderKnownSpec)) renderKnownCard

/-- THE TIED CARD OF 'interlocutorlaw11.RenderLong'. -/
def renderLongCard : Claim7 := { stood := { row := renderLongRow, standIns := [], harness := (true, "ae3a4901b6ef148c74d541bbcb644dddaf60e894fababf777b8ae3b82daa8f21"), looks := false }, kinds := [], alts := [], laidByText := true, laidKinds := [.data, .data, .data], laidTests := true, laidLooks := .later }
def RenderLongCardSaid : Prop := Claim7.holds Tryd.pinned (.plain (OpenSpec.ofChange renderLongSpec)) renderLongCard

/-- THE TIED CARD OF 'interlocutorlaw11.RenderDurs'. -/
def renderDursCard : Claim7 := { stood := { row := renderDursRow, standIns := [], harness := (true, "ae3a4901b6ef148c74d541bbcb644dddaf60e894fababf777b8ae3b82daa8f21"), looks := false }, kinds := [], alts := [], laidByText := true, laidKinds := [.data, .data, .data], laidTests := true, laidLooks := .later }
def RenderDursCardSaid : Prop := Claim7.holds Tryd.pinned (.plain (OpenSpec.ofChange renderDursSpec)) renderDursCard

/-- THE TIED CARD OF 'interlocutorlaw11.RenderWords'. -/
def renderWordsCard : Claim7 := { stood := { row := renderWordsRow, standIns := [], harness := (true, "ae3a4901b6ef148c74d541bbcb644dddaf60e894fababf777b8ae3b82daa8f21"), looks := false }, kinds := [], alts := [], laidByText := true, laidKinds := [.data, .data, .data], laidTests := true, laidLooks := .later }
def RenderWordsCardSaid : Prop := Claim7.holds Tryd.pinned (.plain (OpenSpec.ofChange renderWordsSpec)) renderWordsCard

/-- THE SECOND FORM's CARD OF 'interlocutorlaw11.RenderKnown'. -/
def renderKnownUptoCard : Claim7 := { stood := { row := renderKnownUptoRow, standIns := [], harness := (true, "ae3a4901b6ef148c74d541bbcb644dddaf60e894fababf777b8ae3b82daa8f21"), looks := false }, kinds := [], alts := [], laidByText := true, laidKinds := [.data, .data, .data], laidTests := true, laidLooks := .later }
def RenderKnownUptoCardSaid : Prop := Claim7.holds Tryd.pinned (.plain (OpenSpec.upto renderKnownSpec)) renderKnownUptoCard

/-- THE SECOND FORM's CARD OF 'interlocutorlaw11.RenderLong'. -/
def renderLongUptoCard : Claim7 := { stood := { row := renderLongUptoRow, standIns := [], harness := (true, "ae3a4901b6ef148c74d541bbcb644dddaf60e894fababf777b8ae3b82daa8f21"), looks := false }, kinds := [], alts := [], laidByText := true, laidKinds := [.data, .data, .data], laidTests := true, laidLooks := .later }
def RenderLongUptoCardSaid : Prop := Claim7.holds Tryd.pinned (.plain (OpenSpec.upto renderLongSpec)) renderLongUptoCard

/-- THE SECOND FORM's CARD OF 'interlocutorlaw11.RenderDurs'. -/
def renderDursUptoCard : Claim7 := { stood := { row := renderDursUptoRow, standIns := [], harness := (true, "ae3a4901b6ef148c74d541bbcb644dddaf60e894fababf777b8ae3b82daa8f21"), looks := false }, kinds := [], alts := [], laidByText := true, laidKinds := [.data, .data, .data], laidTests := true, laidLooks := .later }
def RenderDursUptoCardSaid : Prop := Claim7.holds Tryd.pinned (.plain (OpenSpec.upto renderDursSpec)) renderDursUptoCard

/-- THE SECOND FORM's CARD OF 'interlocutorlaw11.RenderWords'. -/
def renderWordsUptoCard : Claim7 := { stood := { row := renderWordsUptoRow, standIns := [], harness := (true, "ae3a4901b6ef148c74d541bbcb644dddaf60e894fababf777b8ae3b82daa8f21"), looks := false }, kinds := [], alts := [], laidByText := true, laidKinds := [.data, .data, .data], laidTests := true, laidLooks := .later }
def RenderWordsUptoCardSaid : Prop := Claim7.holds Tryd.pinned (.plain (OpenSpec.upto renderWordsSpec)) renderWordsUptoCard
end Rows
end Go.Proofs.YtjijikgandkphaaDoor
