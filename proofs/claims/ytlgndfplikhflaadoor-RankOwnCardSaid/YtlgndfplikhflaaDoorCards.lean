/-
  DERIVED. GIVEN WITH THE SEED: THE CARDS: each row of YtlgndfplikhflaaDoorRows.lean that lists a variable, with what it lists TIED to the program's text (the seventh form; the later family's looks); each row that meets fmt, with fmt's text TOLD by the authors' own Lean function (tested against real Go, not proved from fmt's source: count such statements apart). THE CARD IS WHAT COUNTS. Prove the row's statement (the work); the ties are given (YtlgndfplikhflaaDoorTie.lean); close each card by the builder's one call (the guide's Derived/Test/ToyasCard.lean, 'card_holds'). Laid BY PROGRAM, IN A SANDBOX (cutbox-door.mjs). By AI agents, Wed Nov 11 2026. No macro, syntax, notation, axiom, sorry.
-/
import Derived.Test.YtlgndfplikhflaaDoorRows
import GoSem.ClaimSeven
namespace Go.Proofs.YtlgndfplikhflaaDoor
namespace Rows

/-- THE TIED CARD OF 'interlocutorlaw10.RankCompares'. -/
def rankComparesCard : Claim7 := { stood := { row := rankComparesRow, standIns := [], harness := (true, "b73e660e590cceb7515d094f83c8b6e2652f5270bbfc1b7b0efde65efc725214"), looks := false }, kinds := [], alts := [], laidByText := true, laidKinds := [.data, .data, .data], laidTests := true, laidLooks := .later }
def RankComparesCardSaid : Prop := Claim7.holds Tryd.pinned (.plain (OpenSpec.ofChange rankComparesSpec)) rankComparesCard

/-- THE TIED CARD OF 'interlocutorlaw10.RankBest'. -/
def rankBestCard : Claim7 := { stood := { row := rankBestRow, standIns := [], harness := (true, "b73e660e590cceb7515d094f83c8b6e2652f5270bbfc1b7b0efde65efc725214"), looks := false }, kinds := [], alts := [], laidByText := true, laidKinds := [.data, .data, .data], laidTests := true, laidLooks := .later }
def RankBestCardSaid : Prop := Claim7.holds Tryd.pinned (.plain (OpenSpec.ofChange rankBestSpec)) rankBestCard

/-- THE TIED CARD OF 'interlocutorlaw10.RankOrder'. -/
def rankOrderCard : Claim7 := { stood := { row := rankOrderRow, standIns := [], harness := (true, "b73e660e590cceb7515d094f83c8b6e2652f5270bbfc1b7b0efde65efc725214"), looks := false }, kinds := [], alts := [], laidByText := true, laidKinds := [.data, .data, .data], laidTests := true, laidLooks := .later }
def RankOrderCardSaid : Prop := Claim7.holds Tryd.pinned (.plain (OpenSpec.ofChange rankOrderSpec)) rankOrderCard

/-- THE TIED CARD OF 'interlocutorlaw10.RankTurned'. -/
def rankTurnedCard : Claim7 := { stood := { row := rankTurnedRow, standIns := [], harness := (true, "b73e660e590cceb7515d094f83c8b6e2652f5270bbfc1b7b0efde65efc725214"), looks := false }, kinds := [], alts := [], laidByText := true, laidKinds := [.data, .data, .data], laidTests := true, laidLooks := .later }
def RankTurnedCardSaid : Prop := Claim7.holds Tryd.pinned (.plain (OpenSpec.ofChange rankTurnedSpec)) rankTurnedCard

/-- THE TIED CARD OF 'interlocutorlaw10.RankCodes'. -/
def rankCodesCard : Claim7 := { stood := { row := rankCodesRow, standIns := [], harness := (true, "b73e660e590cceb7515d094f83c8b6e2652f5270bbfc1b7b0efde65efc725214"), looks := false }, kinds := [], alts := [], laidByText := true, laidKinds := [.data, .data, .data], laidTests := true, laidLooks := .later }
def RankCodesCardSaid : Prop := Claim7.holds Tryd.pinned (.plain (OpenSpec.ofChange rankCodesSpec)) rankCodesCard

/-- THE TIED CARD OF 'interlocutorlaw10.RankOwn'. -/
def rankOwnCard : Claim7 := { stood := { row := rankOwnRow, standIns := [], harness := (true, "b73e660e590cceb7515d094f83c8b6e2652f5270bbfc1b7b0efde65efc725214"), looks := false }, kinds := [], alts := [], laidByText := true, laidKinds := [.data, .data, .data], laidTests := true, laidLooks := .later }
def RankOwnCardSaid : Prop := Claim7.holds Tryd.pinned (.plain (OpenSpec.ofChange rankOwnSpec)) rankOwnCard

/-- THE TIED CARD OF 'interlocutorlaw10.RankOnce'. -/
def rankOnceCard : Claim7 := { stood := { row := rankOnceRow, standIns := [], harness := (true, "b73e660e590cceb7515d094f83c8b6e2652f5270bbfc1b7b0efde65efc725214"), looks := false }, kinds := [], alts := [], laidByText := true, laidKinds := [.data, .data, .data], laidTests := true, laidLooks := .later }
def RankOnceCardSaid : Prop := Claim7.holds Tryd.pinned (.plain (OpenSpec.ofChange rankOnceSpec)) rankOnceCard

/-- THE TIED CARD OF 'interlocutorlaw10.RankKinds'. -/
def rankKindsCard : Claim7 := { stood := { row := rankKindsRow, standIns := [], harness := (true, "b73e660e590cceb7515d094f83c8b6e2652f5270bbfc1b7b0efde65efc725214"), looks := false }, kinds := [], alts := [], laidByText := true, laidKinds := [.data, .data, .data], laidTests := true, laidLooks := .later }
def RankKindsCardSaid : Prop := Claim7.holds Tryd.pinned (.plain (OpenSpec.ofChange rankKindsSpec)) rankKindsCard

/-- THE TIED CARD OF 'interlocutorlaw10.RankAgain'. -/
def rankAgainCard : Claim7 := { stood := { row := rankAgainRow, standIns := [], harness := (true, "b73e660e590cceb7515d094f83c8b6e2652f5270bbfc1b7b0efde65efc725214"), looks := false }, kinds := [], alts := [], laidByText := true, laidKinds := [.data, .data, .data], laidTests := true, laidLooks := .later }
def RankAgainCardSaid : Prop := Claim7.holds Tryd.pinned (.plain (OpenSpec.ofChange rankAgainSpec)) rankAgainCard

/-- THE TIED CARD OF 'interlocutorlaw10.RankParts'. -/
def rankPartsCard : Claim7 := { stood := { row := rankPartsRow, standIns := [], harness := (true, "b73e660e590cceb7515d094f83c8b6e2652f5270bbfc1b7b0efde65efc725214"), looks := false }, kinds := [], alts := [], laidByText := true, laidKinds := [.data, .data, .data], laidTests := true, laidLooks := .later }
def RankPartsCardSaid : Prop := Claim7.holds Tryd.pinned (.plain (OpenSpec.ofChange rankPartsSpec)) rankPartsCard

/-- THE SECOND FORM's CARD OF 'interlocutorlaw10.RankCompares'. -/
def rankComparesUptoCard : Claim7 := { stood := { row := rankComparesUptoRow, standIns := [], harness := (true, "b73e660e590cceb7515d094f83c8b6e2652f5270bbfc1b7b0efde65efc725214"), looks := false }, kinds := [], alts := [], laidByText := true, laidKinds := [.data, .data, .data], laidTests := true, laidLooks := .later }
def RankComparesUptoCardSaid : Prop := Claim7.holds Tryd.pinned (.plain (OpenSpec.upto rankComparesSpec)) rankComparesUptoCard

/-- THE SECOND FORM's CARD OF 'interlocutorlaw10.RankBest'. -/
def rankBestUptoCard : Claim7 := { stood := { row := rankBestUptoRow, standIns := [], harness := (true, "b73e660e590cceb7515d094f83c8b6e2652f5270bbfc1b7b0efde65efc725214"), looks := false }, kinds := [], alts := [], laidByText := true, laidKinds := [.data, .data, .data], laidTests := true, laidLooks := .later }
def RankBestUptoCardSaid : Prop := Claim7.holds Tryd.pinned (.plain (OpenSpec.upto rankBestSpec)) rankBestUptoCard

/-- THE SECOND FORM's CARD OF 'interlocutorlaw10.RankOrder'. -/
def rankOrderUptoCard : Claim7 := { stood := { row := rankOrderUptoRow, standIns := [], harness := (true, "b73e660e590cceb7515d094f83c8b6e2652f5270bbfc1b7b0efde65efc725214"), looks := false }, kinds := [], alts := [], laidByText := true, laidKinds := [.data, .data, .data], laidTests := true, laidLooks := .later }
def RankOrderUptoCardSaid : Prop := Claim7.holds Tryd.pinned (.plain (OpenSpec.upto rankOrderSpec)) rankOrderUptoCard

/-- THE SECOND FORM's CARD OF 'interlocutorlaw10.RankTurned'. -/
def rankTurnedUptoCard : Claim7 := { stood := { row := rankTurnedUptoRow, standIns := [], harness := (true, "b73e660e590cceb7515d094f83c8b6e2652f5270bbfc1b7b0efde65efc725214"), looks := false }, kinds := [], alts := [], laidByText := true, laidKinds := [.data, .data, .data], laidTests := true, laidLooks := .later }
def RankTurnedUptoCardSaid : Prop := Claim7.holds Tryd.pinned (.plain (OpenSpec.upto rankTurnedSpec)) rankTurnedUptoCard

/-- THE SECOND FORM's CARD OF 'interlocutorlaw10.RankCodes'. -/
def rankCodesUptoCard : Claim7 := { stood := { row := rankCodesUptoRow, standIns := [], harness := (true, "b73e660e590cceb7515d094f83c8b6e2652f5270bbfc1b7b0efde65efc725214"), looks := false }, kinds := [], alts := [], laidByText := true, laidKinds := [.data, .data, .data], laidTests := true, laidLooks := .later }
def RankCodesUptoCardSaid : Prop := Claim7.holds Tryd.pinned (.plain (OpenSpec.upto rankCodesSpec)) rankCodesUptoCard

/-- THE SECOND FORM's CARD OF 'interlocutorlaw10.RankOwn'. -/
def rankOwnUptoCard : Claim7 := { stood := { row := rankOwnUptoRow, standIns := [], harness := (true, "b73e660e590cceb7515d094f83c8b6e2652f5270bbfc1b7b0efde65efc725214"), looks := false }, kinds := [], alts := [], laidByText := true, laidKinds := [.data, .data, .data], laidTests := true, laidLooks := .later }
def RankOwnUptoCardSaid : Prop := Claim7.holds Tryd.pinned (.plain (OpenSpec.upto rankOwnSpec)) rankOwnUptoCard

/-- THE SECOND FORM's CARD OF 'interlocutorlaw10.RankOnce'. -/
def rankOnceUptoCard : Claim7 := { stood := { row := rankOnceUptoRow, standIns := [], harness := (true, "b73e660e590cceb7515d094f83c8b6e2652f5270bbfc1b7b0efde65efc725214"), looks := false }, kinds := [], alts := [], laidByText := true, laidKinds := [.data, .data, .data], laidTests := true, laidLooks := .later }
def RankOnceUptoCardSaid : Prop := Claim7.holds Tryd.pinned (.plain (OpenSpec.upto rankOnceSpec)) rankOnceUptoCard

/-- THE SECOND FORM's CARD OF 'interlocutorlaw10.RankKinds'. -/
def rankKindsUptoCard : Claim7 := { stood := { row := rankKindsUptoRow, standIns := [], harness := (true, "b73e660e590cceb7515d094f83c8b6e2652f5270bbfc1b7b0efde65efc725214"), looks := false }, kinds := [], alts := [], laidByText := true, laidKinds := [.data, .data, .data], laidTests := true, laidLooks := .later }
def RankKindsUptoCardSaid : Prop := Claim7.holds Tryd.pinned (.plain (OpenSpec.upto rankKindsSpec)) rankKindsUptoCard

/-- THE SECOND FORM's CARD OF 'interlocutorlaw10.RankAgain'. -/
def rankAgainUptoCard : Claim7 := { stood := { row := rankAgainUptoRow, standIns := [], harness := (true, "b73e660e590cceb7515d094f83c8b6e2652f5270bbfc1b7b0efde65efc725214"), looks := false }, kinds := [], alts := [], laidByText := true, laidKinds := [.data, .data, .data], laidTests := true, laidLooks := .later }
def RankAgainUptoCardSaid : Prop := Claim7.holds Tryd.pinned (.plain (OpenSpec.upto rankAgainSpec)) rankAgainUptoCard

/-- THE SECOND FORM's CARD OF 'interlocutorlaw10.RankParts'. -/
def rankPartsUptoCard : Claim7 := { stood := { row := rankPartsUptoRow, standIns := [], harness := (true, "b73e660e590cceb7515d094f83c8b6e2652f5270bbfc1b7b0efde65efc725214"), looks := false }, kinds := [], alts := [], laidByText := true, laidKinds := [.data, .data, .data], laidTests := true, laidLooks := .later }
def RankPartsUptoCardSaid : Prop := Claim7.holds Tryd.pinned (.plain (OpenSpec.upto rankPartsSpec)) rankPartsUptoCard
end Rows
end Go.Proofs.YtlgndfplikhflaaDoor
