/-
  NARROWER THAN 'FOR EVERY INPUT', by the rows' own cells (each row's printed sentence says how): DecNorms: laid · DecScales: laid · DecTexts: laid · DecOrders: laid · DecNear: laid · DecWhole: laid · DecParts: laid · DecSigns: laid · DecMore: laid · DecKnown: laid.
  DERIVED. THE GIVEN ROWS OF THIS SEAT. 10 by the template 'for every input the law returns true; each argument reads behind the call as it read before'; 0 by the template 'total and deterministic' (their statements: YtjbihflpjkaifaaDoorTotals.lean).
  GIVEN WITH THE SEED: the statements are not yours to turn. If you find one false, say at which input.
  Laid BY PROGRAM, IN A SANDBOX (cutbox-rows.mjs): the forced cells as the released guide's own fill.sh prints them over the translation 58eee237663de6c3… (all of the seat's roots in one cut). By AI agents, Wed Nov 11 2026. No macro, syntax, notation, axiom, sorry.
-/
import Derived.Test.YtjbihflpjkaifaaDoorChecked
import GoSem.Claim
import GoSem.ClaimJoined
import GoSem.ClaimMapViews
import Derived.JoinedTies
import Derived.KernelRfl
namespace Go.Proofs.YtjbihflpjkaifaaDoor
/- THE CELL 'sum', in the pinned program and in every row, IS THE sha256 OF THE DUMP (.gsa) THAT YtjbihflpjkaifaaDoorProg.lean LOADS. Nothing in Lean hashes anything: it is a label: what it is worth is what the hold of that sum in a sandbox is worth. -/
noncomputable def Tryd.pinned : Pinned := { name := "ytjbihflpjkaifaadoor", sum := "58eee237663de6c3e17807ed33adabc9409c39467ee2cb5d3ce73c64e5d58962", checked := Tryd.checked }
namespace Rows
def none {H : Type} : Left H := { results := [], args := [] }

/- WHAT THE LISTED PACKAGE-LEVEL VARIABLES READ AS WHEN THE CALL BEGINS. Each datum BY PROGRAM (the guide's laid-datum.mjs) off the statement by which the dump's own 'gosem.cut.vars' lays the variable. In a bare row this is a premise. The card (YtjbihflpjkaifaaDoorCards.lean) ties it to the program's text. -/
def laid_math_bits_deBruijn32tab {H : Type} : DataW H := .agg [.lit (.int .u8 0), .lit (.int .u8 1), .lit (.int .u8 28), .lit (.int .u8 2), .lit (.int .u8 29), .lit (.int .u8 14), .lit (.int .u8 24), .lit (.int .u8 3), .lit (.int .u8 30), .lit (.int .u8 22), .lit (.int .u8 20), .lit (.int .u8 15), .lit (.int .u8 25), .lit (.int .u8 17), .lit (.int .u8 4), .lit (.int .u8 8), .lit (.int .u8 31), .lit (.int .u8 27), .lit (.int .u8 13), .lit (.int .u8 23), .lit (.int .u8 21), .lit (.int .u8 19), .lit (.int .u8 16), .lit (.int .u8 7), .lit (.int .u8 26), .lit (.int .u8 12), .lit (.int .u8 18), .lit (.int .u8 6), .lit (.int .u8 11), .lit (.int .u8 5), .lit (.int .u8 10), .lit (.int .u8 9)]
def laid_math_bits_deBruijn64tab {H : Type} : DataW H := .agg [.lit (.int .u8 0), .lit (.int .u8 1), .lit (.int .u8 56), .lit (.int .u8 2), .lit (.int .u8 57), .lit (.int .u8 49), .lit (.int .u8 28), .lit (.int .u8 3), .lit (.int .u8 61), .lit (.int .u8 58), .lit (.int .u8 42), .lit (.int .u8 50), .lit (.int .u8 38), .lit (.int .u8 29), .lit (.int .u8 17), .lit (.int .u8 4), .lit (.int .u8 62), .lit (.int .u8 47), .lit (.int .u8 59), .lit (.int .u8 36), .lit (.int .u8 45), .lit (.int .u8 43), .lit (.int .u8 51), .lit (.int .u8 22), .lit (.int .u8 53), .lit (.int .u8 39), .lit (.int .u8 33), .lit (.int .u8 30), .lit (.int .u8 24), .lit (.int .u8 18), .lit (.int .u8 12), .lit (.int .u8 5), .lit (.int .u8 63), .lit (.int .u8 55), .lit (.int .u8 48), .lit (.int .u8 27), .lit (.int .u8 60), .lit (.int .u8 41), .lit (.int .u8 37), .lit (.int .u8 16), .lit (.int .u8 46), .lit (.int .u8 35), .lit (.int .u8 44), .lit (.int .u8 21), .lit (.int .u8 52), .lit (.int .u8 32), .lit (.int .u8 23), .lit (.int .u8 11), .lit (.int .u8 54), .lit (.int .u8 26), .lit (.int .u8 40), .lit (.int .u8 15), .lit (.int .u8 34), .lit (.int .u8 20), .lit (.int .u8 31), .lit (.int .u8 10), .lit (.int .u8 25), .lit (.int .u8 14), .lit (.int .u8 19), .lit (.int .u8 9), .lit (.int .u8 13), .lit (.int .u8 8), .lit (.int .u8 7), .lit (.int .u8 6)]
def laid_internal_strconv_uint64pow10 {H : Type} : DataW H := .agg [.lit (.int .u64 1), .lit (.int .u64 10), .lit (.int .u64 100), .lit (.int .u64 1000), .lit (.int .u64 10000), .lit (.int .u64 100000), .lit (.int .u64 1000000), .lit (.int .u64 10000000), .lit (.int .u64 100000000), .lit (.int .u64 1000000000), .lit (.int .u64 10000000000), .lit (.int .u64 100000000000), .lit (.int .u64 1000000000000), .lit (.int .u64 10000000000000), .lit (.int .u64 100000000000000), .lit (.int .u64 1000000000000000), .lit (.int .u64 10000000000000000), .lit (.int .u64 100000000000000000), .lit (.int .u64 1000000000000000000), .lit (.int .u64 10000000000000000000)]

/-- 'interlocutorlaw2.DecNorms': WHATEVER THE INPUT: true; the input reads as it did. -/
def decNormsSpec : ChangeSpec := { name := "decNorms", fn := fun _ => fun
  | [d1, d2] => { results := [.lit (.bool true)], args := [d1, d2] }
  | _ => none }
def decNormsRow : OpenClaim := { program := "ytjbihflpjkaifaadoor", sum := "58eee237663de6c3e17807ed33adabc9409c39467ee2cb5d3ce73c64e5d58962", func := "interlocutor/interlocutorlaw2.DecNorms", spec := "decNorms", inPlace := ["internal/abi.NoEscape", "internal/bytealg.MakeNoZero"], unfollowed := true, recurses := true, named := ["internal/strconv.uint64pow10", "math/bits.deBruijn32tab", "math/bits.deBruijn64tab"], apart := false, laid := [("math/bits.deBruijn32tab", laid_math_bits_deBruijn32tab), ("math/bits.deBruijn64tab", laid_math_bits_deBruijn64tab), ("internal/strconv.uint64pow10", laid_internal_strconv_uint64pow10)] }
def DecNormsSaid : Prop := decNormsRow.holds Tryd.pinned (OpenSpec.ofChange decNormsSpec)

/-- ITS FALSE NEIGHBOUR: 'it returns false'. Refute it at one input. -/
def decNormsWrong : ChangeSpec := { name := "decNorms", fn := fun _ => fun
  | [d1, d2] => { results := [.lit (.bool false)], args := [d1, d2] }
  | _ => none }
def DecNormsWrongFalsely : Prop := decNormsRow.holds Tryd.pinned (OpenSpec.ofChange decNormsWrong)

/-- 'interlocutorlaw2.DecScales': WHATEVER THE INPUT: true; the input reads as it did. -/
def decScalesSpec : ChangeSpec := { name := "decScales", fn := fun _ => fun
  | [d1, d2, d3] => { results := [.lit (.bool true)], args := [d1, d2, d3] }
  | _ => none }
def decScalesRow : OpenClaim := { program := "ytjbihflpjkaifaadoor", sum := "58eee237663de6c3e17807ed33adabc9409c39467ee2cb5d3ce73c64e5d58962", func := "interlocutor/interlocutorlaw2.DecScales", spec := "decScales", inPlace := ["internal/abi.NoEscape", "internal/bytealg.MakeNoZero"], unfollowed := true, recurses := true, named := ["internal/strconv.uint64pow10", "math/bits.deBruijn32tab", "math/bits.deBruijn64tab"], apart := false, laid := [("math/bits.deBruijn32tab", laid_math_bits_deBruijn32tab), ("math/bits.deBruijn64tab", laid_math_bits_deBruijn64tab), ("internal/strconv.uint64pow10", laid_internal_strconv_uint64pow10)] }
def DecScalesSaid : Prop := decScalesRow.holds Tryd.pinned (OpenSpec.ofChange decScalesSpec)

/-- ITS FALSE NEIGHBOUR: 'it returns false'. Refute it at one input. -/
def decScalesWrong : ChangeSpec := { name := "decScales", fn := fun _ => fun
  | [d1, d2, d3] => { results := [.lit (.bool false)], args := [d1, d2, d3] }
  | _ => none }
def DecScalesWrongFalsely : Prop := decScalesRow.holds Tryd.pinned (OpenSpec.ofChange decScalesWrong)

/-- 'interlocutorlaw2.DecTexts': WHATEVER THE INPUT: true; the input reads as it did. -/
def decTextsSpec : ChangeSpec := { name := "decTexts", fn := fun _ => fun
  | [d1, d2] => { results := [.lit (.bool true)], args := [d1, d2] }
  | _ => none }
def decTextsRow : OpenClaim := { program := "ytjbihflpjkaifaadoor", sum := "58eee237663de6c3e17807ed33adabc9409c39467ee2cb5d3ce73c64e5d58962", func := "interlocutor/interlocutorlaw2.DecTexts", spec := "decTexts", inPlace := ["internal/abi.NoEscape", "internal/bytealg.MakeNoZero"], unfollowed := true, recurses := true, named := ["internal/strconv.uint64pow10", "math/bits.deBruijn32tab", "math/bits.deBruijn64tab"], apart := false, laid := [("math/bits.deBruijn32tab", laid_math_bits_deBruijn32tab), ("math/bits.deBruijn64tab", laid_math_bits_deBruijn64tab), ("internal/strconv.uint64pow10", laid_internal_strconv_uint64pow10)] }
def DecTextsSaid : Prop := decTextsRow.holds Tryd.pinned (OpenSpec.ofChange decTextsSpec)

/-- ITS FALSE NEIGHBOUR: 'it returns false'. Refute it at one input. -/
def decTextsWrong : ChangeSpec := { name := "decTexts", fn := fun _ => fun
  | [d1, d2] => { results := [.lit (.bool false)], args := [d1, d2] }
  | _ => none }
def DecTextsWrongFalsely : Prop := decTextsRow.holds Tryd.pinned (OpenSpec.ofChange decTextsWrong)

/-- 'interlocutorlaw2.DecOrders': WHATEVER THE INPUT: true; the input reads as it did. -/
def decOrdersSpec : ChangeSpec := { name := "decOrders", fn := fun _ => fun
  | [d1, d2, d3, d4, d5, d6] => { results := [.lit (.bool true)], args := [d1, d2, d3, d4, d5, d6] }
  | _ => none }
def decOrdersRow : OpenClaim := { program := "ytjbihflpjkaifaadoor", sum := "58eee237663de6c3e17807ed33adabc9409c39467ee2cb5d3ce73c64e5d58962", func := "interlocutor/interlocutorlaw2.DecOrders", spec := "decOrders", inPlace := ["internal/abi.NoEscape", "internal/bytealg.MakeNoZero"], unfollowed := true, recurses := true, named := ["internal/strconv.uint64pow10", "math/bits.deBruijn32tab", "math/bits.deBruijn64tab"], apart := false, laid := [("math/bits.deBruijn32tab", laid_math_bits_deBruijn32tab), ("math/bits.deBruijn64tab", laid_math_bits_deBruijn64tab), ("internal/strconv.uint64pow10", laid_internal_strconv_uint64pow10)] }
def DecOrdersSaid : Prop := decOrdersRow.holds Tryd.pinned (OpenSpec.ofChange decOrdersSpec)

/-- ITS FALSE NEIGHBOUR: 'it returns false'. Refute it at one input. -/
def decOrdersWrong : ChangeSpec := { name := "decOrders", fn := fun _ => fun
  | [d1, d2, d3, d4, d5, d6] => { results := [.lit (.bool false)], args := [d1, d2, d3, d4, d5, d6] }
  | _ => none }
def DecOrdersWrongFalsely : Prop := decOrdersRow.holds Tryd.pinned (OpenSpec.ofChange decOrdersWrong)

/-- 'interlocutorlaw2.DecNear': WHATEVER THE INPUT: true; the input reads as it did. -/
def decNearSpec : ChangeSpec := { name := "decNear", fn := fun _ => fun
  | [d1, d2] => { results := [.lit (.bool true)], args := [d1, d2] }
  | _ => none }
def decNearRow : OpenClaim := { program := "ytjbihflpjkaifaadoor", sum := "58eee237663de6c3e17807ed33adabc9409c39467ee2cb5d3ce73c64e5d58962", func := "interlocutor/interlocutorlaw2.DecNear", spec := "decNear", inPlace := ["internal/abi.NoEscape", "internal/bytealg.MakeNoZero"], unfollowed := true, recurses := true, named := ["internal/strconv.uint64pow10", "math/bits.deBruijn32tab", "math/bits.deBruijn64tab"], apart := false, laid := [("math/bits.deBruijn32tab", laid_math_bits_deBruijn32tab), ("math/bits.deBruijn64tab", laid_math_bits_deBruijn64tab), ("internal/strconv.uint64pow10", laid_internal_strconv_uint64pow10)] }
def DecNearSaid : Prop := decNearRow.holds Tryd.pinned (OpenSpec.ofChange decNearSpec)

/-- ITS FALSE NEIGHBOUR: 'it returns false'. Refute it at one input. -/
def decNearWrong : ChangeSpec := { name := "decNear", fn := fun _ => fun
  | [d1, d2] => { results := [.lit (.bool false)], args := [d1, d2] }
  | _ => none }
def DecNearWrongFalsely : Prop := decNearRow.holds Tryd.pinned (OpenSpec.ofChange decNearWrong)

/-- 'interlocutorlaw2.DecWhole': WHATEVER THE INPUT: true; the input reads as it did. -/
def decWholeSpec : ChangeSpec := { name := "decWhole", fn := fun _ => fun
  | [d1, d2] => { results := [.lit (.bool true)], args := [d1, d2] }
  | _ => none }
def decWholeRow : OpenClaim := { program := "ytjbihflpjkaifaadoor", sum := "58eee237663de6c3e17807ed33adabc9409c39467ee2cb5d3ce73c64e5d58962", func := "interlocutor/interlocutorlaw2.DecWhole", spec := "decWhole", inPlace := ["internal/abi.NoEscape", "internal/bytealg.MakeNoZero"], unfollowed := true, recurses := true, named := ["internal/strconv.uint64pow10", "math/bits.deBruijn32tab", "math/bits.deBruijn64tab"], apart := false, laid := [("math/bits.deBruijn32tab", laid_math_bits_deBruijn32tab), ("math/bits.deBruijn64tab", laid_math_bits_deBruijn64tab), ("internal/strconv.uint64pow10", laid_internal_strconv_uint64pow10)] }
def DecWholeSaid : Prop := decWholeRow.holds Tryd.pinned (OpenSpec.ofChange decWholeSpec)

/-- ITS FALSE NEIGHBOUR: 'it returns false'. Refute it at one input. -/
def decWholeWrong : ChangeSpec := { name := "decWhole", fn := fun _ => fun
  | [d1, d2] => { results := [.lit (.bool false)], args := [d1, d2] }
  | _ => none }
def DecWholeWrongFalsely : Prop := decWholeRow.holds Tryd.pinned (OpenSpec.ofChange decWholeWrong)

/-- 'interlocutorlaw2.DecParts': WHATEVER THE INPUT: true; the input reads as it did. -/
def decPartsSpec : ChangeSpec := { name := "decParts", fn := fun _ => fun
  | [d1, d2] => { results := [.lit (.bool true)], args := [d1, d2] }
  | _ => none }
def decPartsRow : OpenClaim := { program := "ytjbihflpjkaifaadoor", sum := "58eee237663de6c3e17807ed33adabc9409c39467ee2cb5d3ce73c64e5d58962", func := "interlocutor/interlocutorlaw2.DecParts", spec := "decParts", inPlace := ["internal/abi.NoEscape", "internal/bytealg.MakeNoZero"], unfollowed := true, recurses := true, named := ["internal/strconv.uint64pow10", "math/bits.deBruijn32tab", "math/bits.deBruijn64tab"], apart := false, laid := [("math/bits.deBruijn32tab", laid_math_bits_deBruijn32tab), ("math/bits.deBruijn64tab", laid_math_bits_deBruijn64tab), ("internal/strconv.uint64pow10", laid_internal_strconv_uint64pow10)] }
def DecPartsSaid : Prop := decPartsRow.holds Tryd.pinned (OpenSpec.ofChange decPartsSpec)

/-- ITS FALSE NEIGHBOUR: 'it returns false'. Refute it at one input. -/
def decPartsWrong : ChangeSpec := { name := "decParts", fn := fun _ => fun
  | [d1, d2] => { results := [.lit (.bool false)], args := [d1, d2] }
  | _ => none }
def DecPartsWrongFalsely : Prop := decPartsRow.holds Tryd.pinned (OpenSpec.ofChange decPartsWrong)

/-- 'interlocutorlaw2.DecSigns': WHATEVER THE INPUT: true; the input reads as it did. -/
def decSignsSpec : ChangeSpec := { name := "decSigns", fn := fun _ => fun
  | [d1, d2, d3] => { results := [.lit (.bool true)], args := [d1, d2, d3] }
  | _ => none }
def decSignsRow : OpenClaim := { program := "ytjbihflpjkaifaadoor", sum := "58eee237663de6c3e17807ed33adabc9409c39467ee2cb5d3ce73c64e5d58962", func := "interlocutor/interlocutorlaw2.DecSigns", spec := "decSigns", inPlace := ["internal/abi.NoEscape", "internal/bytealg.MakeNoZero"], unfollowed := true, recurses := true, named := ["internal/strconv.uint64pow10", "math/bits.deBruijn32tab", "math/bits.deBruijn64tab"], apart := false, laid := [("math/bits.deBruijn32tab", laid_math_bits_deBruijn32tab), ("math/bits.deBruijn64tab", laid_math_bits_deBruijn64tab), ("internal/strconv.uint64pow10", laid_internal_strconv_uint64pow10)] }
def DecSignsSaid : Prop := decSignsRow.holds Tryd.pinned (OpenSpec.ofChange decSignsSpec)

/-- ITS FALSE NEIGHBOUR: 'it returns false'. Refute it at one input. -/
def decSignsWrong : ChangeSpec := { name := "decSigns", fn := fun _ => fun
  | [d1, d2, d3] => { results := [.lit (.bool false)], args := [d1, d2, d3] }
  | _ => none }
def DecSignsWrongFalsely : Prop := decSignsRow.holds Tryd.pinned (OpenSpec.ofChange decSignsWrong)

/-- 'interlocutorlaw2.DecMore': WHATEVER THE INPUT: true; the input reads as it did. -/
def decMoreSpec : ChangeSpec := { name := "decMore", fn := fun _ => fun
  | [d1, d2, d3, d4] => { results := [.lit (.bool true)], args := [d1, d2, d3, d4] }
  | _ => none }
def decMoreRow : OpenClaim := { program := "ytjbihflpjkaifaadoor", sum := "58eee237663de6c3e17807ed33adabc9409c39467ee2cb5d3ce73c64e5d58962", func := "interlocutor/interlocutorlaw2.DecMore", spec := "decMore", inPlace := ["internal/abi.NoEscape", "internal/bytealg.MakeNoZero"], unfollowed := true, recurses := true, named := ["internal/strconv.uint64pow10", "math/bits.deBruijn32tab", "math/bits.deBruijn64tab"], apart := false, laid := [("math/bits.deBruijn32tab", laid_math_bits_deBruijn32tab), ("math/bits.deBruijn64tab", laid_math_bits_deBruijn64tab), ("internal/strconv.uint64pow10", laid_internal_strconv_uint64pow10)] }
def DecMoreSaid : Prop := decMoreRow.holds Tryd.pinned (OpenSpec.ofChange decMoreSpec)

/-- ITS FALSE NEIGHBOUR: 'it returns false'. Refute it at one input. -/
def decMoreWrong : ChangeSpec := { name := "decMore", fn := fun _ => fun
  | [d1, d2, d3, d4] => { results := [.lit (.bool false)], args := [d1, d2, d3, d4] }
  | _ => none }
def DecMoreWrongFalsely : Prop := decMoreRow.holds Tryd.pinned (OpenSpec.ofChange decMoreWrong)

/-- 'interlocutorlaw2.DecKnown': WHATEVER THE INPUT: true; the input reads as it did. -/
def decKnownSpec : ChangeSpec := { name := "decKnown", fn := fun _ => fun
  | [d] => { results := [.lit (.bool true)], args := [d] }
  | _ => none }
def decKnownRow : OpenClaim := { program := "ytjbihflpjkaifaadoor", sum := "58eee237663de6c3e17807ed33adabc9409c39467ee2cb5d3ce73c64e5d58962", func := "interlocutor/interlocutorlaw2.DecKnown", spec := "decKnown", inPlace := ["internal/abi.NoEscape", "internal/bytealg.MakeNoZero"], unfollowed := true, recurses := true, named := ["internal/strconv.uint64pow10", "math/bits.deBruijn32tab", "math/bits.deBruijn64tab"], apart := false, laid := [("math/bits.deBruijn32tab", laid_math_bits_deBruijn32tab), ("math/bits.deBruijn64tab", laid_math_bits_deBruijn64tab), ("internal/strconv.uint64pow10", laid_internal_strconv_uint64pow10)] }
def DecKnownSaid : Prop := decKnownRow.holds Tryd.pinned (OpenSpec.ofChange decKnownSpec)

/-- ITS FALSE NEIGHBOUR: 'it returns false'. Refute it at one input. -/
def decKnownWrong : ChangeSpec := { name := "decKnown", fn := fun _ => fun
  | [d] => { results := [.lit (.bool false)], args := [d] }
  | _ => none }
def DecKnownWrongFalsely : Prop := decKnownRow.holds Tryd.pinned (OpenSpec.ofChange decKnownWrong)

/- THE SECOND FORM. 'bulk': how many values and letters a reading holds, each counted each time it is reached (what is shared counts as often as it is met; a slice's spare places count too). A statement '..UptoSaid' is the law's where the arguments, and the package variables that the reading takes, are together of bulk at most 1048576: NARROWER than '..Said'. Prove '..Said' where nothing that the law and all that it calls make is longer than what came in: it says more and counts as full. Else prove '..UptoSaid'. A law counts once. -/
mutual
def uptoBulk {H : Type} : DataW H → Nat
  | .lit (.string bytes) => bytes.length + 1
  | .lit _ => 1
  | .nil => 1
  | .ptr d => uptoBulk d + 1
  | .slice elems spare => uptoBulkAll elems + uptoBulkAll spare + 1
  | .agg parts => uptoBulkAll parts + 1
  | .iface _ d => uptoBulk d + 1
  | .map entries => uptoBulkEntries entries + 1
  | .held _ => 1
def uptoBulkAll {H : Type} : List (DataW H) → Nat
  | [] => 0
  | d :: r => uptoBulk d + uptoBulkAll r
def uptoBulkEntries {H : Type} : List (Lit × DataW H) → Nat
  | [] => 0
  | x :: r => uptoBulkEntry x + uptoBulkEntries r
def uptoBulkEntry {H : Type} : Lit × DataW H → Nat
  | (.string bytes, d) => bytes.length + uptoBulk d + 1
  | (_, d) => uptoBulk d + 1
 end
def uptoSmall : (H : Type) → List (DataW H) → Bool := fun _ ds => decide (uptoBulkAll ds ≤ 1048576)
def OpenSpec.upto (s : _root_.Go.ChangeSpec) : _root_.Go.OpenSpec := { _root_.Go.OpenSpec.ofChange s with cond := some uptoSmall }

/-- 'interlocutorlaw2.DecNorms', WHERE WHAT IT READS IS OF BULK AT MOST 1048576: true; the input reads as it did. -/
def decNormsUptoRow : OpenClaim := { program := "ytjbihflpjkaifaadoor", sum := "58eee237663de6c3e17807ed33adabc9409c39467ee2cb5d3ce73c64e5d58962", func := "interlocutor/interlocutorlaw2.DecNorms", spec := "decNorms", inPlace := ["internal/abi.NoEscape", "internal/bytealg.MakeNoZero"], unfollowed := true, recurses := true, named := ["internal/strconv.uint64pow10", "math/bits.deBruijn32tab", "math/bits.deBruijn64tab"], apart := false, laid := [("math/bits.deBruijn32tab", laid_math_bits_deBruijn32tab), ("math/bits.deBruijn64tab", laid_math_bits_deBruijn64tab), ("internal/strconv.uint64pow10", laid_internal_strconv_uint64pow10)], narrowed := true }
def DecNormsUptoSaid : Prop := decNormsUptoRow.holds Tryd.pinned (OpenSpec.upto decNormsSpec)

/-- 'interlocutorlaw2.DecScales', WHERE WHAT IT READS IS OF BULK AT MOST 1048576: true; the input reads as it did. -/
def decScalesUptoRow : OpenClaim := { program := "ytjbihflpjkaifaadoor", sum := "58eee237663de6c3e17807ed33adabc9409c39467ee2cb5d3ce73c64e5d58962", func := "interlocutor/interlocutorlaw2.DecScales", spec := "decScales", inPlace := ["internal/abi.NoEscape", "internal/bytealg.MakeNoZero"], unfollowed := true, recurses := true, named := ["internal/strconv.uint64pow10", "math/bits.deBruijn32tab", "math/bits.deBruijn64tab"], apart := false, laid := [("math/bits.deBruijn32tab", laid_math_bits_deBruijn32tab), ("math/bits.deBruijn64tab", laid_math_bits_deBruijn64tab), ("internal/strconv.uint64pow10", laid_internal_strconv_uint64pow10)], narrowed := true }
def DecScalesUptoSaid : Prop := decScalesUptoRow.holds Tryd.pinned (OpenSpec.upto decScalesSpec)

/-- 'interlocutorlaw2.DecTexts', WHERE WHAT IT READS IS OF BULK AT MOST 1048576: true; the input reads as it did. -/
def decTextsUptoRow : OpenClaim := { program := "ytjbihflpjkaifaadoor", sum := "58eee237663de6c3e17807ed33adabc9409c39467ee2cb5d3ce73c64e5d58962", func := "interlocutor/interlocutorlaw2.DecTexts", spec := "decTexts", inPlace := ["internal/abi.NoEscape", "internal/bytealg.MakeNoZero"], unfollowed := true, recurses := true, named := ["internal/strconv.uint64pow10", "math/bits.deBruijn32tab", "math/bits.deBruijn64tab"], apart := false, laid := [("math/bits.deBruijn32tab", laid_math_bits_deBruijn32tab), ("math/bits.deBruijn64tab", laid_math_bits_deBruijn64tab), ("internal/strconv.uint64pow10", laid_internal_strconv_uint64pow10)], narrowed := true }
def DecTextsUptoSaid : Prop := decTextsUptoRow.holds Tryd.pinned (OpenSpec.upto decTextsSpec)

/-- 'interlocutorlaw2.DecOrders', WHERE WHAT IT READS IS OF BULK AT MOST 1048576: true; the input reads as it did. -/
def decOrdersUptoRow : OpenClaim := { program := "ytjbihflpjkaifaadoor", sum := "58eee237663de6c3e17807ed33adabc9409c39467ee2cb5d3ce73c64e5d58962", func := "interlocutor/interlocutorlaw2.DecOrders", spec := "decOrders", inPlace := ["internal/abi.NoEscape", "internal/bytealg.MakeNoZero"], unfollowed := true, recurses := true, named := ["internal/strconv.uint64pow10", "math/bits.deBruijn32tab", "math/bits.deBruijn64tab"], apart := false, laid := [("math/bits.deBruijn32tab", laid_math_bits_deBruijn32tab), ("math/bits.deBruijn64tab", laid_math_bits_deBruijn64tab), ("internal/strconv.uint64pow10", laid_internal_strconv_uint64pow10)], narrowed := true }
def DecOrdersUptoSaid : Prop := decOrdersUptoRow.holds Tryd.pinned (OpenSpec.upto decOrdersSpec)

/-- 'interlocutorlaw2.DecNear', WHERE WHAT IT READS IS OF BULK AT MOST 1048576: true; the input reads as it did. -/
def decNearUptoRow : OpenClaim := { program := "ytjbihflpjkaifaadoor", sum := "58eee237663de6c3e17807ed33adabc9409c39467ee2cb5d3ce73c64e5d58962", func := "interlocutor/interlocutorlaw2.DecNear", spec := "decNear", inPlace := ["internal/abi.NoEscape", "internal/bytealg.MakeNoZero"], unfollowed := true, recurses := true, named := ["internal/strconv.uint64pow10", "math/bits.deBruijn32tab", "math/bits.deBruijn64tab"], apart := false, laid := [("math/bits.deBruijn32tab", laid_math_bits_deBruijn32tab), ("math/bits.deBruijn64tab", laid_math_bits_deBruijn64tab), ("internal/strconv.uint64pow10", laid_internal_strconv_uint64pow10)], narrowed := true }
def DecNearUptoSaid : Prop := decNearUptoRow.holds Tryd.pinned (OpenSpec.upto decNearSpec)

/-- 'interlocutorlaw2.DecWhole', WHERE WHAT IT READS IS OF BULK AT MOST 1048576: true; the input reads as it did. -/
def decWholeUptoRow : OpenClaim := { program := "ytjbihflpjkaifaadoor", sum := "58eee237663de6c3e17807ed33adabc9409c39467ee2cb5d3ce73c64e5d58962", func := "interlocutor/interlocutorlaw2.DecWhole", spec := "decWhole", inPlace := ["internal/abi.NoEscape", "internal/bytealg.MakeNoZero"], unfollowed := true, recurses := true, named := ["internal/strconv.uint64pow10", "math/bits.deBruijn32tab", "math/bits.deBruijn64tab"], apart := false, laid := [("math/bits.deBruijn32tab", laid_math_bits_deBruijn32tab), ("math/bits.deBruijn64tab", laid_math_bits_deBruijn64tab), ("internal/strconv.uint64pow10", laid_internal_strconv_uint64pow10)], narrowed := true }
def DecWholeUptoSaid : Prop := decWholeUptoRow.holds Tryd.pinned (OpenSpec.upto decWholeSpec)

/-- 'interlocutorlaw2.DecParts', WHERE WHAT IT READS IS OF BULK AT MOST 1048576: true; the input reads as it did. -/
def decPartsUptoRow : OpenClaim := { program := "ytjbihflpjkaifaadoor", sum := "58eee237663de6c3e17807ed33adabc9409c39467ee2cb5d3ce73c64e5d58962", func := "interlocutor/interlocutorlaw2.DecParts", spec := "decParts", inPlace := ["internal/abi.NoEscape", "internal/bytealg.MakeNoZero"], unfollowed := true, recurses := true, named := ["internal/strconv.uint64pow10", "math/bits.deBruijn32tab", "math/bits.deBruijn64tab"], apart := false, laid := [("math/bits.deBruijn32tab", laid_math_bits_deBruijn32tab), ("math/bits.deBruijn64tab", laid_math_bits_deBruijn64tab), ("internal/strconv.uint64pow10", laid_internal_strconv_uint64pow10)], narrowed := true }
def DecPartsUptoSaid : Prop := decPartsUptoRow.holds Tryd.pinned (OpenSpec.upto decPartsSpec)

/-- 'interlocutorlaw2.DecSigns', WHERE WHAT IT READS IS OF BULK AT MOST 1048576: true; the input reads as it did. -/
def decSignsUptoRow : OpenClaim := { program := "ytjbihflpjkaifaadoor", sum := "58eee237663de6c3e17807ed33adabc9409c39467ee2cb5d3ce73c64e5d58962", func := "interlocutor/interlocutorlaw2.DecSigns", spec := "decSigns", inPlace := ["internal/abi.NoEscape", "internal/bytealg.MakeNoZero"], unfollowed := true, recurses := true, named := ["internal/strconv.uint64pow10", "math/bits.deBruijn32tab", "math/bits.deBruijn64tab"], apart := false, laid := [("math/bits.deBruijn32tab", laid_math_bits_deBruijn32tab), ("math/bits.deBruijn64tab", laid_math_bits_deBruijn64tab), ("internal/strconv.uint64pow10", laid_internal_strconv_uint64pow10)], narrowed := true }
def DecSignsUptoSaid : Prop := decSignsUptoRow.holds Tryd.pinned (OpenSpec.upto decSignsSpec)

/-- 'interlocutorlaw2.DecMore', WHERE WHAT IT READS IS OF BULK AT MOST 1048576: true; the input reads as it did. -/
def decMoreUptoRow : OpenClaim := { program := "ytjbihflpjkaifaadoor", sum := "58eee237663de6c3e17807ed33adabc9409c39467ee2cb5d3ce73c64e5d58962", func := "interlocutor/interlocutorlaw2.DecMore", spec := "decMore", inPlace := ["internal/abi.NoEscape", "internal/bytealg.MakeNoZero"], unfollowed := true, recurses := true, named := ["internal/strconv.uint64pow10", "math/bits.deBruijn32tab", "math/bits.deBruijn64tab"], apart := false, laid := [("math/bits.deBruijn32tab", laid_math_bits_deBruijn32tab), ("math/bits.deBruijn64tab", laid_math_bits_deBruijn64tab), ("internal/strconv.uint64pow10", laid_internal_strconv_uint64pow10)], narrowed := true }
def DecMoreUptoSaid : Prop := decMoreUptoRow.holds Tryd.pinned (OpenSpec.upto decMoreSpec)

/-- 'interlocutorlaw2.DecKnown', WHERE WHAT IT READS IS OF BULK AT MOST 1048576: true; the input reads as it did. -/
def decKnownUptoRow : OpenClaim := { program := "ytjbihflpjkaifaadoor", sum := "58eee237663de6c3e17807ed33adabc9409c39467ee2cb5d3ce73c64e5d58962", func := "interlocutor/interlocutorlaw2.DecKnown", spec := "decKnown", inPlace := ["internal/abi.NoEscape", "internal/bytealg.MakeNoZero"], unfollowed := true, recurses := true, named := ["internal/strconv.uint64pow10", "math/bits.deBruijn32tab", "math/bits.deBruijn64tab"], apart := false, laid := [("math/bits.deBruijn32tab", laid_math_bits_deBruijn32tab), ("math/bits.deBruijn64tab", laid_math_bits_deBruijn64tab), ("internal/strconv.uint64pow10", laid_internal_strconv_uint64pow10)], narrowed := true }
def DecKnownUptoSaid : Prop := decKnownUptoRow.holds Tryd.pinned (OpenSpec.upto decKnownSpec)

end Rows
end Go.Proofs.YtjbihflpjkaifaaDoor
