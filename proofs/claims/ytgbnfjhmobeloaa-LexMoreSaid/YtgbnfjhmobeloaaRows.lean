/-
  No cell of these rows narrows 'for every input' (looked for: loops, veiled, ifaces, maps, wideKeys, modest, calm, conditions, laid).
  DERIVED. THE GIVEN ROWS OF THIS SEAT. 11 by the template 'for every input the law returns true; each argument reads behind the call as it read before'; 0 by the template 'total and deterministic' (their statements: YtgbnfjhmobeloaaTotals.lean).
  GIVEN WITH THE SEED: the statements are not yours to turn. If you find one false, say at which input.
  Laid BY PROGRAM, IN A SANDBOX (cutbox-rows.mjs): the forced cells as the released guide's own fill.sh prints them over the translation f131d87849127185… (all of the seat's roots in one cut). By AI agents, Wed Nov 11 2026. No macro, syntax, notation, axiom, sorry.
-/
import Derived.Test.YtgbnfjhmobeloaaChecked
import GoSem.Claim
import GoSem.ClaimJoined
import GoSem.ClaimMapViews
import Derived.JoinedTies
import Derived.KernelRfl
namespace Go.Proofs.Ytgbnfjhmobeloaa
/- THE CELL 'sum', in the pinned program and in every row, IS THE sha256 OF THE DUMP (.gsa) THAT YtgbnfjhmobeloaaProg.lean LOADS. Nothing in Lean hashes anything: it is a label: what it is worth is what the hold of that sum in a sandbox is worth. -/
noncomputable def Try.pinned : Pinned := { name := "ytgbnfjhmobeloaa", sum := "f131d878491271858c85ff0f9dbb3a46a13bf4f8356311d858beecf9ab475f08", checked := Try.checked }
namespace Rows
def none {H : Type} : Left H := { results := [], args := [] }

/-- 'interlocutorlaw6.LexAll': WHATEVER THE INPUT: true; the input reads as it did. -/
def lexAllSpec : ChangeSpec := { name := "lexAll", fn := fun _ => fun
  | [d1, d2, d3, d4] => { results := [.lit (.bool true)], args := [d1, d2, d3, d4] }
  | _ => none }
def lexAllRow : OpenClaim := { program := "ytgbnfjhmobeloaa", sum := "f131d878491271858c85ff0f9dbb3a46a13bf4f8356311d858beecf9ab475f08", func := "interlocutor/interlocutorlaw6.LexAll", spec := "lexAll", inPlace := ["internal/bytealg.IndexByteString"], unfollowed := true, recurses := true, apart := false }
def LexAllSaid : Prop := lexAllRow.holds Try.pinned (OpenSpec.ofChange lexAllSpec)

/-- ITS FALSE NEIGHBOUR: 'it returns false'. Refute it at one input. -/
def lexAllWrong : ChangeSpec := { name := "lexAll", fn := fun _ => fun
  | [d1, d2, d3, d4] => { results := [.lit (.bool false)], args := [d1, d2, d3, d4] }
  | _ => none }
def LexAllWrongFalsely : Prop := lexAllRow.holds Try.pinned (OpenSpec.ofChange lexAllWrong)

/-- 'interlocutorlaw6.LexPlaces': WHATEVER THE INPUT: true; the input reads as it did. -/
def lexPlacesSpec : ChangeSpec := { name := "lexPlaces", fn := fun _ => fun
  | [d1, d2, d3] => { results := [.lit (.bool true)], args := [d1, d2, d3] }
  | _ => none }
def lexPlacesRow : OpenClaim := { program := "ytgbnfjhmobeloaa", sum := "f131d878491271858c85ff0f9dbb3a46a13bf4f8356311d858beecf9ab475f08", func := "interlocutor/interlocutorlaw6.LexPlaces", spec := "lexPlaces", inPlace := ["internal/bytealg.IndexByteString"], unfollowed := true, recurses := true, apart := false }
def LexPlacesSaid : Prop := lexPlacesRow.holds Try.pinned (OpenSpec.ofChange lexPlacesSpec)

/-- ITS FALSE NEIGHBOUR: 'it returns false'. Refute it at one input. -/
def lexPlacesWrong : ChangeSpec := { name := "lexPlaces", fn := fun _ => fun
  | [d1, d2, d3] => { results := [.lit (.bool false)], args := [d1, d2, d3] }
  | _ => none }
def LexPlacesWrongFalsely : Prop := lexPlacesRow.holds Try.pinned (OpenSpec.ofChange lexPlacesWrong)

/-- 'interlocutorlaw6.LexBlanks': WHATEVER THE INPUT: true; the input reads as it did. -/
def lexBlanksSpec : ChangeSpec := { name := "lexBlanks", fn := fun _ => fun
  | [d1, d2, d3, d4] => { results := [.lit (.bool true)], args := [d1, d2, d3, d4] }
  | _ => none }
def lexBlanksRow : OpenClaim := { program := "ytgbnfjhmobeloaa", sum := "f131d878491271858c85ff0f9dbb3a46a13bf4f8356311d858beecf9ab475f08", func := "interlocutor/interlocutorlaw6.LexBlanks", spec := "lexBlanks", inPlace := ["internal/bytealg.IndexByteString"], unfollowed := true, recurses := true, apart := false }
def LexBlanksSaid : Prop := lexBlanksRow.holds Try.pinned (OpenSpec.ofChange lexBlanksSpec)

/-- ITS FALSE NEIGHBOUR: 'it returns false'. Refute it at one input. -/
def lexBlanksWrong : ChangeSpec := { name := "lexBlanks", fn := fun _ => fun
  | [d1, d2, d3, d4] => { results := [.lit (.bool false)], args := [d1, d2, d3, d4] }
  | _ => none }
def LexBlanksWrongFalsely : Prop := lexBlanksRow.holds Try.pinned (OpenSpec.ofChange lexBlanksWrong)

/-- 'interlocutorlaw6.LexDigits': WHATEVER THE INPUT: true; the input reads as it did. -/
def lexDigitsSpec : ChangeSpec := { name := "lexDigits", fn := fun _ => fun
  | [d1, d2] => { results := [.lit (.bool true)], args := [d1, d2] }
  | _ => none }
def lexDigitsRow : OpenClaim := { program := "ytgbnfjhmobeloaa", sum := "f131d878491271858c85ff0f9dbb3a46a13bf4f8356311d858beecf9ab475f08", func := "interlocutor/interlocutorlaw6.LexDigits", spec := "lexDigits", inPlace := ["internal/bytealg.IndexByteString"], unfollowed := true, recurses := true, apart := false }
def LexDigitsSaid : Prop := lexDigitsRow.holds Try.pinned (OpenSpec.ofChange lexDigitsSpec)

/-- ITS FALSE NEIGHBOUR: 'it returns false'. Refute it at one input. -/
def lexDigitsWrong : ChangeSpec := { name := "lexDigits", fn := fun _ => fun
  | [d1, d2] => { results := [.lit (.bool false)], args := [d1, d2] }
  | _ => none }
def LexDigitsWrongFalsely : Prop := lexDigitsRow.holds Try.pinned (OpenSpec.ofChange lexDigitsWrong)

/-- 'interlocutorlaw6.LexWords': WHATEVER THE INPUT: true; the input reads as it did. -/
def lexWordsSpec : ChangeSpec := { name := "lexWords", fn := fun _ => fun
  | [d] => { results := [.lit (.bool true)], args := [d] }
  | _ => none }
def lexWordsRow : OpenClaim := { program := "ytgbnfjhmobeloaa", sum := "f131d878491271858c85ff0f9dbb3a46a13bf4f8356311d858beecf9ab475f08", func := "interlocutor/interlocutorlaw6.LexWords", spec := "lexWords", inPlace := ["internal/bytealg.IndexByteString"], unfollowed := true, recurses := true, apart := false }
def LexWordsSaid : Prop := lexWordsRow.holds Try.pinned (OpenSpec.ofChange lexWordsSpec)

/-- ITS FALSE NEIGHBOUR: 'it returns false'. Refute it at one input. -/
def lexWordsWrong : ChangeSpec := { name := "lexWords", fn := fun _ => fun
  | [d] => { results := [.lit (.bool false)], args := [d] }
  | _ => none }
def LexWordsWrongFalsely : Prop := lexWordsRow.holds Try.pinned (OpenSpec.ofChange lexWordsWrong)

/-- 'interlocutorlaw6.LexMarks': WHATEVER THE INPUT: true; the input reads as it did. -/
def lexMarksSpec : ChangeSpec := { name := "lexMarks", fn := fun _ => fun
  | [d] => { results := [.lit (.bool true)], args := [d] }
  | _ => none }
def lexMarksRow : OpenClaim := { program := "ytgbnfjhmobeloaa", sum := "f131d878491271858c85ff0f9dbb3a46a13bf4f8356311d858beecf9ab475f08", func := "interlocutor/interlocutorlaw6.LexMarks", spec := "lexMarks", inPlace := ["internal/bytealg.IndexByteString"], unfollowed := true, recurses := true, apart := false }
def LexMarksSaid : Prop := lexMarksRow.holds Try.pinned (OpenSpec.ofChange lexMarksSpec)

/-- ITS FALSE NEIGHBOUR: 'it returns false'. Refute it at one input. -/
def lexMarksWrong : ChangeSpec := { name := "lexMarks", fn := fun _ => fun
  | [d] => { results := [.lit (.bool false)], args := [d] }
  | _ => none }
def LexMarksWrongFalsely : Prop := lexMarksRow.holds Try.pinned (OpenSpec.ofChange lexMarksWrong)

/-- 'interlocutorlaw6.LexMore': WHATEVER THE INPUT: true; the input reads as it did. -/
def lexMoreSpec : ChangeSpec := { name := "lexMore", fn := fun _ => fun
  | [d1, d2, d3, d4] => { results := [.lit (.bool true)], args := [d1, d2, d3, d4] }
  | _ => none }
def lexMoreRow : OpenClaim := { program := "ytgbnfjhmobeloaa", sum := "f131d878491271858c85ff0f9dbb3a46a13bf4f8356311d858beecf9ab475f08", func := "interlocutor/interlocutorlaw6.LexMore", spec := "lexMore", inPlace := ["internal/bytealg.IndexByteString"], unfollowed := true, recurses := true, apart := false }
def LexMoreSaid : Prop := lexMoreRow.holds Try.pinned (OpenSpec.ofChange lexMoreSpec)

/-- ITS FALSE NEIGHBOUR: 'it returns false'. Refute it at one input. -/
def lexMoreWrong : ChangeSpec := { name := "lexMore", fn := fun _ => fun
  | [d1, d2, d3, d4] => { results := [.lit (.bool false)], args := [d1, d2, d3, d4] }
  | _ => none }
def LexMoreWrongFalsely : Prop := lexMoreRow.holds Try.pinned (OpenSpec.ofChange lexMoreWrong)

/-- 'interlocutorlaw6.LexAts': WHATEVER THE INPUT: true; the input reads as it did. -/
def lexAtsSpec : ChangeSpec := { name := "lexAts", fn := fun _ => fun
  | [d1, d2, d3] => { results := [.lit (.bool true)], args := [d1, d2, d3] }
  | _ => none }
def lexAtsRow : OpenClaim := { program := "ytgbnfjhmobeloaa", sum := "f131d878491271858c85ff0f9dbb3a46a13bf4f8356311d858beecf9ab475f08", func := "interlocutor/interlocutorlaw6.LexAts", spec := "lexAts", inPlace := ["internal/bytealg.IndexByteString"], unfollowed := true, recurses := true, apart := false }
def LexAtsSaid : Prop := lexAtsRow.holds Try.pinned (OpenSpec.ofChange lexAtsSpec)

/-- ITS FALSE NEIGHBOUR: 'it returns false'. Refute it at one input. -/
def lexAtsWrong : ChangeSpec := { name := "lexAts", fn := fun _ => fun
  | [d1, d2, d3] => { results := [.lit (.bool false)], args := [d1, d2, d3] }
  | _ => none }
def LexAtsWrongFalsely : Prop := lexAtsRow.holds Try.pinned (OpenSpec.ofChange lexAtsWrong)

/-- 'interlocutorlaw6.LexEnds': WHATEVER THE INPUT: true; the input reads as it did. -/
def lexEndsSpec : ChangeSpec := { name := "lexEnds", fn := fun _ => fun
  | [d1, d2] => { results := [.lit (.bool true)], args := [d1, d2] }
  | _ => none }
def lexEndsRow : OpenClaim := { program := "ytgbnfjhmobeloaa", sum := "f131d878491271858c85ff0f9dbb3a46a13bf4f8356311d858beecf9ab475f08", func := "interlocutor/interlocutorlaw6.LexEnds", spec := "lexEnds", inPlace := ["internal/bytealg.IndexByteString"], unfollowed := true, recurses := true, apart := false }
def LexEndsSaid : Prop := lexEndsRow.holds Try.pinned (OpenSpec.ofChange lexEndsSpec)

/-- ITS FALSE NEIGHBOUR: 'it returns false'. Refute it at one input. -/
def lexEndsWrong : ChangeSpec := { name := "lexEnds", fn := fun _ => fun
  | [d1, d2] => { results := [.lit (.bool false)], args := [d1, d2] }
  | _ => none }
def LexEndsWrongFalsely : Prop := lexEndsRow.holds Try.pinned (OpenSpec.ofChange lexEndsWrong)

/-- 'interlocutorlaw6.LexOwn': WHATEVER THE INPUT: true; the input reads as it did. -/
def lexOwnSpec : ChangeSpec := { name := "lexOwn", fn := fun _ => fun
  | [d1, d2, d3, d4] => { results := [.lit (.bool true)], args := [d1, d2, d3, d4] }
  | _ => none }
def lexOwnRow : OpenClaim := { program := "ytgbnfjhmobeloaa", sum := "f131d878491271858c85ff0f9dbb3a46a13bf4f8356311d858beecf9ab475f08", func := "interlocutor/interlocutorlaw6.LexOwn", spec := "lexOwn", inPlace := ["internal/bytealg.IndexByteString"], unfollowed := true, recurses := true, apart := false }
def LexOwnSaid : Prop := lexOwnRow.holds Try.pinned (OpenSpec.ofChange lexOwnSpec)

/-- ITS FALSE NEIGHBOUR: 'it returns false'. Refute it at one input. -/
def lexOwnWrong : ChangeSpec := { name := "lexOwn", fn := fun _ => fun
  | [d1, d2, d3, d4] => { results := [.lit (.bool false)], args := [d1, d2, d3, d4] }
  | _ => none }
def LexOwnWrongFalsely : Prop := lexOwnRow.holds Try.pinned (OpenSpec.ofChange lexOwnWrong)

/-- 'interlocutorlaw6.LexNumbers': WHATEVER THE INPUT: true; the input reads as it did. -/
def lexNumbersSpec : ChangeSpec := { name := "lexNumbers", fn := fun _ => fun
  | [d1, d2, d3] => { results := [.lit (.bool true)], args := [d1, d2, d3] }
  | _ => none }
def lexNumbersRow : OpenClaim := { program := "ytgbnfjhmobeloaa", sum := "f131d878491271858c85ff0f9dbb3a46a13bf4f8356311d858beecf9ab475f08", func := "interlocutor/interlocutorlaw6.LexNumbers", spec := "lexNumbers", inPlace := ["internal/bytealg.IndexByteString"], unfollowed := true, recurses := true, apart := false }
def LexNumbersSaid : Prop := lexNumbersRow.holds Try.pinned (OpenSpec.ofChange lexNumbersSpec)

/-- ITS FALSE NEIGHBOUR: 'it returns false'. Refute it at one input. -/
def lexNumbersWrong : ChangeSpec := { name := "lexNumbers", fn := fun _ => fun
  | [d1, d2, d3] => { results := [.lit (.bool false)], args := [d1, d2, d3] }
  | _ => none }
def LexNumbersWrongFalsely : Prop := lexNumbersRow.holds Try.pinned (OpenSpec.ofChange lexNumbersWrong)

/- THE SECOND FORM. 'bulk': how many values and letters a reading holds, each counted each time it is reached (what is shared counts as often as it is met; a slice's spare places count too). A statement '..UptoSaid' is the law's where the arguments, and the package variables that the reading takes, are together of bulk at most 1048576: NARROWER than '..Said'. Prove '..Said' where nothing that the law and all that it calls make is longer than what came in: it says more and counts as full. Else prove '..UptoSaid'. A law counts once. -/
mutual
def uptoBulk {H : Type} : DataW H → Nat
  | .lit (.string bytes) => bytes.length + 1
  | .lit _ => 1
  | .nil => 1
  | .ptr d => uptoBulk d + 1
  | .slice elems spare => uptoBulkAll elems + uptoBulkAll spare + 1
  | .agg parts => uptoBulkAll parts + 1
  | .iface _ d => uptoBulk d + 1
  | .map entries => uptoBulkEntries entries + 1
  | .held _ => 1
def uptoBulkAll {H : Type} : List (DataW H) → Nat
  | [] => 0
  | d :: r => uptoBulk d + uptoBulkAll r
def uptoBulkEntries {H : Type} : List (Lit × DataW H) → Nat
  | [] => 0
  | x :: r => uptoBulkEntry x + uptoBulkEntries r
def uptoBulkEntry {H : Type} : Lit × DataW H → Nat
  | (.string bytes, d) => bytes.length + uptoBulk d + 1
  | (_, d) => uptoBulk d + 1
 end
def uptoSmall : (H : Type) → List (DataW H) → Bool := fun _ ds => decide (uptoBulkAll ds ≤ 1048576)
def OpenSpec.upto (s : _root_.Go.ChangeSpec) : _root_.Go.OpenSpec := { _root_.Go.OpenSpec.ofChange s with cond := some uptoSmall }

/-- 'interlocutorlaw6.LexAll', WHERE WHAT IT READS IS OF BULK AT MOST 1048576: true; the input reads as it did. -/
def lexAllUptoRow : OpenClaim := { program := "ytgbnfjhmobeloaa", sum := "f131d878491271858c85ff0f9dbb3a46a13bf4f8356311d858beecf9ab475f08", func := "interlocutor/interlocutorlaw6.LexAll", spec := "lexAll", inPlace := ["internal/bytealg.IndexByteString"], unfollowed := true, recurses := true, apart := false, narrowed := true }
def LexAllUptoSaid : Prop := lexAllUptoRow.holds Try.pinned (OpenSpec.upto lexAllSpec)

/-- 'interlocutorlaw6.LexPlaces', WHERE WHAT IT READS IS OF BULK AT MOST 1048576: true; the input reads as it did. -/
def lexPlacesUptoRow : OpenClaim := { program := "ytgbnfjhmobeloaa", sum := "f131d878491271858c85ff0f9dbb3a46a13bf4f8356311d858beecf9ab475f08", func := "interlocutor/interlocutorlaw6.LexPlaces", spec := "lexPlaces", inPlace := ["internal/bytealg.IndexByteString"], unfollowed := true, recurses := true, apart := false, narrowed := true }
def LexPlacesUptoSaid : Prop := lexPlacesUptoRow.holds Try.pinned (OpenSpec.upto lexPlacesSpec)

/-- 'interlocutorlaw6.LexBlanks', WHERE WHAT IT READS IS OF BULK AT MOST 1048576: true; the input reads as it did. -/
def lexBlanksUptoRow : OpenClaim := { program := "ytgbnfjhmobeloaa", sum := "f131d878491271858c85ff0f9dbb3a46a13bf4f8356311d858beecf9ab475f08", func := "interlocutor/interlocutorlaw6.LexBlanks", spec := "lexBlanks", inPlace := ["internal/bytealg.IndexByteString"], unfollowed := true, recurses := true, apart := false, narrowed := true }
def LexBlanksUptoSaid : Prop := lexBlanksUptoRow.holds Try.pinned (OpenSpec.upto lexBlanksSpec)

/-- 'interlocutorlaw6.LexDigits', WHERE WHAT IT READS IS OF BULK AT MOST 1048576: true; the input reads as it did. -/
def lexDigitsUptoRow : OpenClaim := { program := "ytgbnfjhmobeloaa", sum := "f131d878491271858c85ff0f9dbb3a46a13bf4f8356311d858beecf9ab475f08", func := "interlocutor/interlocutorlaw6.LexDigits", spec := "lexDigits", inPlace := ["internal/bytealg.IndexByteString"], unfollowed := true, recurses := true, apart := false, narrowed := true }
def LexDigitsUptoSaid : Prop := lexDigitsUptoRow.holds Try.pinned (OpenSpec.upto lexDigitsSpec)

/-- 'interlocutorlaw6.LexWords', WHERE WHAT IT READS IS OF BULK AT MOST 1048576: true; the input reads as it did. -/
def lexWordsUptoRow : OpenClaim := { program := "ytgbnfjhmobeloaa", sum := "f131d878491271858c85ff0f9dbb3a46a13bf4f8356311d858beecf9ab475f08", func := "interlocutor/interlocutorlaw6.LexWords", spec := "lexWords", inPlace := ["internal/bytealg.IndexByteString"], unfollowed := true, recurses := true, apart := false, narrowed := true }
def LexWordsUptoSaid : Prop := lexWordsUptoRow.holds Try.pinned (OpenSpec.upto lexWordsSpec)

/-- 'interlocutorlaw6.LexMarks', WHERE WHAT IT READS IS OF BULK AT MOST 1048576: true; the input reads as it did. -/
def lexMarksUptoRow : OpenClaim := { program := "ytgbnfjhmobeloaa", sum := "f131d878491271858c85ff0f9dbb3a46a13bf4f8356311d858beecf9ab475f08", func := "interlocutor/interlocutorlaw6.LexMarks", spec := "lexMarks", inPlace := ["internal/bytealg.IndexByteString"], unfollowed := true, recurses := true, apart := false, narrowed := true }
def LexMarksUptoSaid : Prop := lexMarksUptoRow.holds Try.pinned (OpenSpec.upto lexMarksSpec)

/-- 'interlocutorlaw6.LexMore', WHERE WHAT IT READS IS OF BULK AT MOST 1048576: true; the input reads as it did. -/
def lexMoreUptoRow : OpenClaim := { program := "ytgbnfjhmobeloaa", sum := "f131d878491271858c85ff0f9dbb3a46a13bf4f8356311d858beecf9ab475f08", func := "interlocutor/interlocutorlaw6.LexMore", spec := "lexMore", inPlace := ["internal/bytealg.IndexByteString"], unfollowed := true, recurses := true, apart := false, narrowed := true }
def LexMoreUptoSaid : Prop := lexMoreUptoRow.holds Try.pinned (OpenSpec.upto lexMoreSpec)

/-- 'interlocutorlaw6.LexAts', WHERE WHAT IT READS IS OF BULK AT MOST 1048576: true; the input reads as it did. -/
def lexAtsUptoRow : OpenClaim := { program := "ytgbnfjhmobeloaa", sum := "f131d878491271858c85ff0f9dbb3a46a13bf4f8356311d858beecf9ab475f08", func := "interlocutor/interlocutorlaw6.LexAts", spec := "lexAts", inPlace := ["internal/bytealg.IndexByteString"], unfollowed := true, recurses := true, apart := false, narrowed := true }
def LexAtsUptoSaid : Prop := lexAtsUptoRow.holds Try.pinned (OpenSpec.upto lexAtsSpec)

/-- 'interlocutorlaw6.LexEnds', WHERE WHAT IT READS IS OF BULK AT MOST 1048576: true; the input reads as it did. -/
def lexEndsUptoRow : OpenClaim := { program := "ytgbnfjhmobeloaa", sum := "f131d878491271858c85ff0f9dbb3a46a13bf4f8356311d858beecf9ab475f08", func := "interlocutor/interlocutorlaw6.LexEnds", spec := "lexEnds", inPlace := ["internal/bytealg.IndexByteString"], unfollowed := true, recurses := true, apart := false, narrowed := true }
def LexEndsUptoSaid : Prop := lexEndsUptoRow.holds Try.pinned (OpenSpec.upto lexEndsSpec)

/-- 'interlocutorlaw6.LexOwn', WHERE WHAT IT READS IS OF BULK AT MOST 1048576: true; the input reads as it did. -/
def lexOwnUptoRow : OpenClaim := { program := "ytgbnfjhmobeloaa", sum := "f131d878491271858c85ff0f9dbb3a46a13bf4f8356311d858beecf9ab475f08", func := "interlocutor/interlocutorlaw6.LexOwn", spec := "lexOwn", inPlace := ["internal/bytealg.IndexByteString"], unfollowed := true, recurses := true, apart := false, narrowed := true }
def LexOwnUptoSaid : Prop := lexOwnUptoRow.holds Try.pinned (OpenSpec.upto lexOwnSpec)

/-- 'interlocutorlaw6.LexNumbers', WHERE WHAT IT READS IS OF BULK AT MOST 1048576: true; the input reads as it did. -/
def lexNumbersUptoRow : OpenClaim := { program := "ytgbnfjhmobeloaa", sum := "f131d878491271858c85ff0f9dbb3a46a13bf4f8356311d858beecf9ab475f08", func := "interlocutor/interlocutorlaw6.LexNumbers", spec := "lexNumbers", inPlace := ["internal/bytealg.IndexByteString"], unfollowed := true, recurses := true, apart := false, narrowed := true }
def LexNumbersUptoSaid : Prop := lexNumbersUptoRow.holds Try.pinned (OpenSpec.upto lexNumbersSpec)

end Rows
end Go.Proofs.Ytgbnfjhmobeloaa
