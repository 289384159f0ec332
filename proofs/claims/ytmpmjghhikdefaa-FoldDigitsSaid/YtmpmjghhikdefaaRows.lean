/-
  No cell of these rows narrows 'for every input' (looked for: loops, veiled, ifaces, maps, wideKeys, modest, calm, conditions, laid).
  DERIVED. THE GIVEN ROWS OF THIS SEAT. 11 by the template 'for every input the law returns true; each argument reads behind the call as it read before'; 0 by the template 'total and deterministic' (their statements: YtmpmjghhikdefaaTotals.lean).
  GIVEN WITH THE SEED: the statements are not yours to turn. If you find one false, say at which input.
  Laid BY PROGRAM, IN A SANDBOX (cutbox-rows.mjs): the forced cells as the released guide's own fill.sh prints them over the translation 6c4131dc80747b47… (all of the seat's roots in one cut). By AI agents, Wed Nov 11 2026. No macro, syntax, notation, axiom, sorry.
-/
import Derived.Test.YtmpmjghhikdefaaChecked
import GoSem.Claim
import GoSem.ClaimJoined
import GoSem.ClaimMapViews
import Derived.JoinedTies
import Derived.KernelRfl
namespace Go.Proofs.Ytmpmjghhikdefaa
/- THE CELL 'sum', in the pinned program and in every row, IS THE sha256 OF THE DUMP (.gsa) THAT YtmpmjghhikdefaaProg.lean LOADS. Nothing in Lean hashes anything: it is a label: what it is worth is what the hold of that sum in a sandbox is worth. -/
noncomputable def Try.pinned : Pinned := { name := "ytmpmjghhikdefaa", sum := "6c4131dc80747b47e52fcc4bc0ef9fd8d476962c964cca1ff7bfa5785a008e8e", checked := Try.checked }
namespace Rows
def none {H : Type} : Left H := { results := [], args := [] }

/-- 'interlocutorlaw3.FoldAll': WHATEVER THE INPUT: true; the input reads as it did. -/
def foldAllSpec : ChangeSpec := { name := "foldAll", fn := fun _ => fun
  | [d1, d2, d3] => { results := [.lit (.bool true)], args := [d1, d2, d3] }
  | _ => none }
def foldAllRow : OpenClaim := { program := "ytmpmjghhikdefaa", sum := "6c4131dc80747b47e52fcc4bc0ef9fd8d476962c964cca1ff7bfa5785a008e8e", func := "interlocutor/interlocutorlaw3.FoldAll", spec := "foldAll", unfollowed := true, recurses := true, apart := false }
def FoldAllSaid : Prop := foldAllRow.holds Try.pinned (OpenSpec.ofChange foldAllSpec)

/-- ITS FALSE NEIGHBOUR: 'it returns false'. Refute it at one input. -/
def foldAllWrong : ChangeSpec := { name := "foldAll", fn := fun _ => fun
  | [d1, d2, d3] => { results := [.lit (.bool false)], args := [d1, d2, d3] }
  | _ => none }
def FoldAllWrongFalsely : Prop := foldAllRow.holds Try.pinned (OpenSpec.ofChange foldAllWrong)

/-- 'interlocutorlaw3.FoldRunes': WHATEVER THE INPUT: true; the input reads as it did. -/
def foldRunesSpec : ChangeSpec := { name := "foldRunes", fn := fun _ => fun
  | [d1, d2] => { results := [.lit (.bool true)], args := [d1, d2] }
  | _ => none }
def foldRunesRow : OpenClaim := { program := "ytmpmjghhikdefaa", sum := "6c4131dc80747b47e52fcc4bc0ef9fd8d476962c964cca1ff7bfa5785a008e8e", func := "interlocutor/interlocutorlaw3.FoldRunes", spec := "foldRunes", unfollowed := true, recurses := true, apart := false }
def FoldRunesSaid : Prop := foldRunesRow.holds Try.pinned (OpenSpec.ofChange foldRunesSpec)

/-- ITS FALSE NEIGHBOUR: 'it returns false'. Refute it at one input. -/
def foldRunesWrong : ChangeSpec := { name := "foldRunes", fn := fun _ => fun
  | [d1, d2] => { results := [.lit (.bool false)], args := [d1, d2] }
  | _ => none }
def FoldRunesWrongFalsely : Prop := foldRunesRow.holds Try.pinned (OpenSpec.ofChange foldRunesWrong)

/-- 'interlocutorlaw3.FoldTwice': WHATEVER THE INPUT: true; the input reads as it did. -/
def foldTwiceSpec : ChangeSpec := { name := "foldTwice", fn := fun _ => fun
  | [d1, d2] => { results := [.lit (.bool true)], args := [d1, d2] }
  | _ => none }
def foldTwiceRow : OpenClaim := { program := "ytmpmjghhikdefaa", sum := "6c4131dc80747b47e52fcc4bc0ef9fd8d476962c964cca1ff7bfa5785a008e8e", func := "interlocutor/interlocutorlaw3.FoldTwice", spec := "foldTwice", unfollowed := true, recurses := true, apart := false }
def FoldTwiceSaid : Prop := foldTwiceRow.holds Try.pinned (OpenSpec.ofChange foldTwiceSpec)

/-- ITS FALSE NEIGHBOUR: 'it returns false'. Refute it at one input. -/
def foldTwiceWrong : ChangeSpec := { name := "foldTwice", fn := fun _ => fun
  | [d1, d2] => { results := [.lit (.bool false)], args := [d1, d2] }
  | _ => none }
def FoldTwiceWrongFalsely : Prop := foldTwiceRow.holds Try.pinned (OpenSpec.ofChange foldTwiceWrong)

/-- 'interlocutorlaw3.FoldPlaces': WHATEVER THE INPUT: true; the input reads as it did. -/
def foldPlacesSpec : ChangeSpec := { name := "foldPlaces", fn := fun _ => fun
  | [d1, d2] => { results := [.lit (.bool true)], args := [d1, d2] }
  | _ => none }
def foldPlacesRow : OpenClaim := { program := "ytmpmjghhikdefaa", sum := "6c4131dc80747b47e52fcc4bc0ef9fd8d476962c964cca1ff7bfa5785a008e8e", func := "interlocutor/interlocutorlaw3.FoldPlaces", spec := "foldPlaces", unfollowed := true, recurses := true, apart := false }
def FoldPlacesSaid : Prop := foldPlacesRow.holds Try.pinned (OpenSpec.ofChange foldPlacesSpec)

/-- ITS FALSE NEIGHBOUR: 'it returns false'. Refute it at one input. -/
def foldPlacesWrong : ChangeSpec := { name := "foldPlaces", fn := fun _ => fun
  | [d1, d2] => { results := [.lit (.bool false)], args := [d1, d2] }
  | _ => none }
def FoldPlacesWrongFalsely : Prop := foldPlacesRow.holds Try.pinned (OpenSpec.ofChange foldPlacesWrong)

/-- 'interlocutorlaw3.FoldJoined': WHATEVER THE INPUT: true; the input reads as it did. -/
def foldJoinedSpec : ChangeSpec := { name := "foldJoined", fn := fun _ => fun
  | [d1, d2] => { results := [.lit (.bool true)], args := [d1, d2] }
  | _ => none }
def foldJoinedRow : OpenClaim := { program := "ytmpmjghhikdefaa", sum := "6c4131dc80747b47e52fcc4bc0ef9fd8d476962c964cca1ff7bfa5785a008e8e", func := "interlocutor/interlocutorlaw3.FoldJoined", spec := "foldJoined", unfollowed := true, recurses := true, apart := false }
def FoldJoinedSaid : Prop := foldJoinedRow.holds Try.pinned (OpenSpec.ofChange foldJoinedSpec)

/-- ITS FALSE NEIGHBOUR: 'it returns false'. Refute it at one input. -/
def foldJoinedWrong : ChangeSpec := { name := "foldJoined", fn := fun _ => fun
  | [d1, d2] => { results := [.lit (.bool false)], args := [d1, d2] }
  | _ => none }
def FoldJoinedWrongFalsely : Prop := foldJoinedRow.holds Try.pinned (OpenSpec.ofChange foldJoinedWrong)

/-- 'interlocutorlaw3.FoldDigits': WHATEVER THE INPUT: true; the input reads as it did. -/
def foldDigitsSpec : ChangeSpec := { name := "foldDigits", fn := fun _ => fun
  | [d1, d2] => { results := [.lit (.bool true)], args := [d1, d2] }
  | _ => none }
def foldDigitsRow : OpenClaim := { program := "ytmpmjghhikdefaa", sum := "6c4131dc80747b47e52fcc4bc0ef9fd8d476962c964cca1ff7bfa5785a008e8e", func := "interlocutor/interlocutorlaw3.FoldDigits", spec := "foldDigits", unfollowed := true, recurses := true, apart := false }
def FoldDigitsSaid : Prop := foldDigitsRow.holds Try.pinned (OpenSpec.ofChange foldDigitsSpec)

/-- ITS FALSE NEIGHBOUR: 'it returns false'. Refute it at one input. -/
def foldDigitsWrong : ChangeSpec := { name := "foldDigits", fn := fun _ => fun
  | [d1, d2] => { results := [.lit (.bool false)], args := [d1, d2] }
  | _ => none }
def FoldDigitsWrongFalsely : Prop := foldDigitsRow.holds Try.pinned (OpenSpec.ofChange foldDigitsWrong)

/-- 'interlocutorlaw3.FoldAscii': WHATEVER THE INPUT: true; the input reads as it did. -/
def foldAsciiSpec : ChangeSpec := { name := "foldAscii", fn := fun _ => fun
  | [d] => { results := [.lit (.bool true)], args := [d] }
  | _ => none }
def foldAsciiRow : OpenClaim := { program := "ytmpmjghhikdefaa", sum := "6c4131dc80747b47e52fcc4bc0ef9fd8d476962c964cca1ff7bfa5785a008e8e", func := "interlocutor/interlocutorlaw3.FoldAscii", spec := "foldAscii", unfollowed := true, recurses := true, apart := false }
def FoldAsciiSaid : Prop := foldAsciiRow.holds Try.pinned (OpenSpec.ofChange foldAsciiSpec)

/-- ITS FALSE NEIGHBOUR: 'it returns false'. Refute it at one input. -/
def foldAsciiWrong : ChangeSpec := { name := "foldAscii", fn := fun _ => fun
  | [d] => { results := [.lit (.bool false)], args := [d] }
  | _ => none }
def FoldAsciiWrongFalsely : Prop := foldAsciiRow.holds Try.pinned (OpenSpec.ofChange foldAsciiWrong)

/-- 'interlocutorlaw3.FoldBad': WHATEVER THE INPUT: true; the input reads as it did. -/
def foldBadSpec : ChangeSpec := { name := "foldBad", fn := fun _ => fun
  | [d1, d2, d3, d4, d5] => { results := [.lit (.bool true)], args := [d1, d2, d3, d4, d5] }
  | _ => none }
def foldBadRow : OpenClaim := { program := "ytmpmjghhikdefaa", sum := "6c4131dc80747b47e52fcc4bc0ef9fd8d476962c964cca1ff7bfa5785a008e8e", func := "interlocutor/interlocutorlaw3.FoldBad", spec := "foldBad", unfollowed := true, recurses := true, apart := false }
def FoldBadSaid : Prop := foldBadRow.holds Try.pinned (OpenSpec.ofChange foldBadSpec)

/-- ITS FALSE NEIGHBOUR: 'it returns false'. Refute it at one input. -/
def foldBadWrong : ChangeSpec := { name := "foldBad", fn := fun _ => fun
  | [d1, d2, d3, d4, d5] => { results := [.lit (.bool false)], args := [d1, d2, d3, d4, d5] }
  | _ => none }
def FoldBadWrongFalsely : Prop := foldBadRow.holds Try.pinned (OpenSpec.ofChange foldBadWrong)

/-- 'interlocutorlaw3.FoldOnes': WHATEVER THE INPUT: true; the input reads as it did. -/
def foldOnesSpec : ChangeSpec := { name := "foldOnes", fn := fun _ => fun
  | [d] => { results := [.lit (.bool true)], args := [d] }
  | _ => none }
def foldOnesRow : OpenClaim := { program := "ytmpmjghhikdefaa", sum := "6c4131dc80747b47e52fcc4bc0ef9fd8d476962c964cca1ff7bfa5785a008e8e", func := "interlocutor/interlocutorlaw3.FoldOnes", spec := "foldOnes", unfollowed := true, recurses := true, apart := false }
def FoldOnesSaid : Prop := foldOnesRow.holds Try.pinned (OpenSpec.ofChange foldOnesSpec)

/-- ITS FALSE NEIGHBOUR: 'it returns false'. Refute it at one input. -/
def foldOnesWrong : ChangeSpec := { name := "foldOnes", fn := fun _ => fun
  | [d] => { results := [.lit (.bool false)], args := [d] }
  | _ => none }
def FoldOnesWrongFalsely : Prop := foldOnesRow.holds Try.pinned (OpenSpec.ofChange foldOnesWrong)

/-- 'interlocutorlaw3.FoldCases': WHATEVER THE INPUT: true; the input reads as it did. -/
def foldCasesSpec : ChangeSpec := { name := "foldCases", fn := fun _ => fun
  | [d] => { results := [.lit (.bool true)], args := [d] }
  | _ => none }
def foldCasesRow : OpenClaim := { program := "ytmpmjghhikdefaa", sum := "6c4131dc80747b47e52fcc4bc0ef9fd8d476962c964cca1ff7bfa5785a008e8e", func := "interlocutor/interlocutorlaw3.FoldCases", spec := "foldCases", unfollowed := true, recurses := true, apart := false }
def FoldCasesSaid : Prop := foldCasesRow.holds Try.pinned (OpenSpec.ofChange foldCasesSpec)

/-- ITS FALSE NEIGHBOUR: 'it returns false'. Refute it at one input. -/
def foldCasesWrong : ChangeSpec := { name := "foldCases", fn := fun _ => fun
  | [d] => { results := [.lit (.bool false)], args := [d] }
  | _ => none }
def FoldCasesWrongFalsely : Prop := foldCasesRow.holds Try.pinned (OpenSpec.ofChange foldCasesWrong)

/-- 'interlocutorlaw3.FoldSystems': WHATEVER THE INPUT: true; the input reads as it did. -/
def foldSystemsSpec : ChangeSpec := { name := "foldSystems", fn := fun _ => fun
  | [d1, d2, d3, d4] => { results := [.lit (.bool true)], args := [d1, d2, d3, d4] }
  | _ => none }
def foldSystemsRow : OpenClaim := { program := "ytmpmjghhikdefaa", sum := "6c4131dc80747b47e52fcc4bc0ef9fd8d476962c964cca1ff7bfa5785a008e8e", func := "interlocutor/interlocutorlaw3.FoldSystems", spec := "foldSystems", unfollowed := true, recurses := true, apart := false }
def FoldSystemsSaid : Prop := foldSystemsRow.holds Try.pinned (OpenSpec.ofChange foldSystemsSpec)

/-- ITS FALSE NEIGHBOUR: 'it returns false'. Refute it at one input. -/
def foldSystemsWrong : ChangeSpec := { name := "foldSystems", fn := fun _ => fun
  | [d1, d2, d3, d4] => { results := [.lit (.bool false)], args := [d1, d2, d3, d4] }
  | _ => none }
def FoldSystemsWrongFalsely : Prop := foldSystemsRow.holds Try.pinned (OpenSpec.ofChange foldSystemsWrong)

/- THE SECOND FORM. 'bulk': how many values and letters a reading holds, each counted each time it is reached (what is shared counts as often as it is met; a slice's spare places count too). A statement '..UptoSaid' is the law's where the arguments, and the package variables that the reading takes, are together of bulk at most 1048576: NARROWER than '..Said'. Prove '..Said' where nothing that the law and all that it calls make is longer than what came in: it says more and counts as full. Else prove '..UptoSaid'. A law counts once. -/
mutual
def uptoBulk {H : Type} : DataW H → Nat
  | .lit (.string bytes) => bytes.length + 1
  | .lit _ => 1
  | .nil => 1
  | .ptr d => uptoBulk d + 1
  | .slice elems spare => uptoBulkAll elems + uptoBulkAll spare + 1
  | .agg parts => uptoBulkAll parts + 1
  | .iface _ d => uptoBulk d + 1
  | .map entries => uptoBulkEntries entries + 1
  | .held _ => 1
def uptoBulkAll {H : Type} : List (DataW H) → Nat
  | [] => 0
  | d :: r => uptoBulk d + uptoBulkAll r
def uptoBulkEntries {H : Type} : List (Lit × DataW H) → Nat
  | [] => 0
  | x :: r => uptoBulkEntry x + uptoBulkEntries r
def uptoBulkEntry {H : Type} : Lit × DataW H → Nat
  | (.string bytes, d) => bytes.length + uptoBulk d + 1
  | (_, d) => uptoBulk d + 1
 end
def uptoSmall : (H : Type) → List (DataW H) → Bool := fun _ ds => decide (uptoBulkAll ds ≤ 1048576)
def OpenSpec.upto (s : _root_.Go.ChangeSpec) : _root_.Go.OpenSpec := { _root_.Go.OpenSpec.ofChange s with cond := some uptoSmall }

/-- 'interlocutorlaw3.FoldAll', WHERE WHAT IT READS IS OF BULK AT MOST 1048576: true; the input reads as it did. -/
def foldAllUptoRow : OpenClaim := { program := "ytmpmjghhikdefaa", sum := "6c4131dc80747b47e52fcc4bc0ef9fd8d476962c964cca1ff7bfa5785a008e8e", func := "interlocutor/interlocutorlaw3.FoldAll", spec := "foldAll", unfollowed := true, recurses := true, apart := false, narrowed := true }
def FoldAllUptoSaid : Prop := foldAllUptoRow.holds Try.pinned (OpenSpec.upto foldAllSpec)

/-- 'interlocutorlaw3.FoldRunes', WHERE WHAT IT READS IS OF BULK AT MOST 1048576: true; the input reads as it did. -/
def foldRunesUptoRow : OpenClaim := { program := "ytmpmjghhikdefaa", sum := "6c4131dc80747b47e52fcc4bc0ef9fd8d476962c964cca1ff7bfa5785a008e8e", func := "interlocutor/interlocutorlaw3.FoldRunes", spec := "foldRunes", unfollowed := true, recurses := true, apart := false, narrowed := true }
def FoldRunesUptoSaid : Prop := foldRunesUptoRow.holds Try.pinned (OpenSpec.upto foldRunesSpec)

/-- 'interlocutorlaw3.FoldTwice', WHERE WHAT IT READS IS OF BULK AT MOST 1048576: true; the input reads as it did. -/
def foldTwiceUptoRow : OpenClaim := { program := "ytmpmjghhikdefaa", sum := "6c4131dc80747b47e52fcc4bc0ef9fd8d476962c964cca1ff7bfa5785a008e8e", func := "interlocutor/interlocutorlaw3.FoldTwice", spec := "foldTwice", unfollowed := true, recurses := true, apart := false, narrowed := true }
def FoldTwiceUptoSaid : Prop := foldTwiceUptoRow.holds Try.pinned (OpenSpec.upto foldTwiceSpec)

/-- 'interlocutorlaw3.FoldPlaces', WHERE WHAT IT READS IS OF BULK AT MOST 1048576: true; the input reads as it did. -/
def foldPlacesUptoRow : OpenClaim := { program := "ytmpmjghhikdefaa", sum := "6c4131dc80747b47e52fcc4bc0ef9fd8d476962c964cca1ff7bfa5785a008e8e", func := "interlocutor/interlocutorlaw3.FoldPlaces", spec := "foldPlaces", unfollowed := true, recurses := true, apart := false, narrowed := true }
def FoldPlacesUptoSaid : Prop := foldPlacesUptoRow.holds Try.pinned (OpenSpec.upto foldPlacesSpec)

/-- 'interlocutorlaw3.FoldJoined', WHERE WHAT IT READS IS OF BULK AT MOST 1048576: true; the input reads as it did. -/
def foldJoinedUptoRow : OpenClaim := { program := "ytmpmjghhikdefaa", sum := "6c4131dc80747b47e52fcc4bc0ef9fd8d476962c964cca1ff7bfa5785a008e8e", func := "interlocutor/interlocutorlaw3.FoldJoined", spec := "foldJoined", unfollowed := true, recurses := true, apart := false, narrowed := true }
def FoldJoinedUptoSaid : Prop := foldJoinedUptoRow.holds Try.pinned (OpenSpec.upto foldJoinedSpec)

/-- 'interlocutorlaw3.FoldDigits', WHERE WHAT IT READS IS OF BULK AT MOST 1048576: true; the input reads as it did. -/
def foldDigitsUptoRow : OpenClaim := { program := "ytmpmjghhikdefaa", sum := "6c4131dc80747b47e52fcc4bc0ef9fd8d476962c964cca1ff7bfa5785a008e8e", func := "interlocutor/interlocutorlaw3.FoldDigits", spec := "foldDigits", unfollowed := true, recurses := true, apart := false, narrowed := true }
def FoldDigitsUptoSaid : Prop := foldDigitsUptoRow.holds Try.pinned (OpenSpec.upto foldDigitsSpec)

/-- 'interlocutorlaw3.FoldAscii', WHERE WHAT IT READS IS OF BULK AT MOST 1048576: true; the input reads as it did. -/
def foldAsciiUptoRow : OpenClaim := { program := "ytmpmjghhikdefaa", sum := "6c4131dc80747b47e52fcc4bc0ef9fd8d476962c964cca1ff7bfa5785a008e8e", func := "interlocutor/interlocutorlaw3.FoldAscii", spec := "foldAscii", unfollowed := true, recurses := true, apart := false, narrowed := true }
def FoldAsciiUptoSaid : Prop := foldAsciiUptoRow.holds Try.pinned (OpenSpec.upto foldAsciiSpec)

/-- 'interlocutorlaw3.FoldBad', WHERE WHAT IT READS IS OF BULK AT MOST 1048576: true; the input reads as it did. -/
def foldBadUptoRow : OpenClaim := { program := "ytmpmjghhikdefaa", sum := "6c4131dc80747b47e52fcc4bc0ef9fd8d476962c964cca1ff7bfa5785a008e8e", func := "interlocutor/interlocutorlaw3.FoldBad", spec := "foldBad", unfollowed := true, recurses := true, apart := false, narrowed := true }
def FoldBadUptoSaid : Prop := foldBadUptoRow.holds Try.pinned (OpenSpec.upto foldBadSpec)

/-- 'interlocutorlaw3.FoldOnes', WHERE WHAT IT READS IS OF BULK AT MOST 1048576: true; the input reads as it did. -/
def foldOnesUptoRow : OpenClaim := { program := "ytmpmjghhikdefaa", sum := "6c4131dc80747b47e52fcc4bc0ef9fd8d476962c964cca1ff7bfa5785a008e8e", func := "interlocutor/interlocutorlaw3.FoldOnes", spec := "foldOnes", unfollowed := true, recurses := true, apart := false, narrowed := true }
def FoldOnesUptoSaid : Prop := foldOnesUptoRow.holds Try.pinned (OpenSpec.upto foldOnesSpec)

/-- 'interlocutorlaw3.FoldCases', WHERE WHAT IT READS IS OF BULK AT MOST 1048576: true; the input reads as it did. -/
def foldCasesUptoRow : OpenClaim := { program := "ytmpmjghhikdefaa", sum := "6c4131dc80747b47e52fcc4bc0ef9fd8d476962c964cca1ff7bfa5785a008e8e", func := "interlocutor/interlocutorlaw3.FoldCases", spec := "foldCases", unfollowed := true, recurses := true, apart := false, narrowed := true }
def FoldCasesUptoSaid : Prop := foldCasesUptoRow.holds Try.pinned (OpenSpec.upto foldCasesSpec)

/-- 'interlocutorlaw3.FoldSystems', WHERE WHAT IT READS IS OF BULK AT MOST 1048576: true; the input reads as it did. -/
def foldSystemsUptoRow : OpenClaim := { program := "ytmpmjghhikdefaa", sum := "6c4131dc80747b47e52fcc4bc0ef9fd8d476962c964cca1ff7bfa5785a008e8e", func := "interlocutor/interlocutorlaw3.FoldSystems", spec := "foldSystems", unfollowed := true, recurses := true, apart := false, narrowed := true }
def FoldSystemsUptoSaid : Prop := foldSystemsUptoRow.holds Try.pinned (OpenSpec.upto foldSystemsSpec)

end Rows
end Go.Proofs.Ytmpmjghhikdefaa
