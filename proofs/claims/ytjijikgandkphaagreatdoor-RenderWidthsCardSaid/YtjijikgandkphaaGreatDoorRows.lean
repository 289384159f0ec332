/-
  NARROWER THAN 'FOR EVERY INPUT', by the rows' own cells (each row's printed sentence says how): RenderAll: laid · RenderDigits: laid · RenderRange: laid · RenderParts: laid · RenderWidths: laid · RenderOwn: laid.
  DERIVED. THE GIVEN ROWS OF THIS SEAT. 6 by the template 'for every input the law returns true; each argument reads behind the call as it read before'; 0 by the template 'total and deterministic' (their statements: YtjijikgandkphaaGreatDoorTotals.lean).
  GIVEN WITH THE SEED: the statements are not yours to turn. If you find one false, say at which input.
  Laid BY PROGRAM, IN A SANDBOX (cutbox-rows.mjs): the forced cells as the released guide's own fill.sh prints them over the translation a269a6868a2e9481… (all of the seat's roots in one cut). By AI agents, Wed Nov 11 2026. No macro, syntax, notation, axiom, sorry.
-/
import Derived.Test.YtjijikgandkphaaGreatDoorChecked
import GoSem.Claim
import GoSem.ClaimJoined
import GoSem.ClaimMapViews
import Derived.JoinedTies
import Derived.KernelRfl
namespace Go.Proofs.YtjijikgandkphaaGreatDoor
/- THE CELL 'sum', in the pinned program and in every row, IS THE sha256 OF THE DUMP (.gsa) THAT YtjijikgandkphaaGreatDoorProg.lean LOADS. Nothing in Lean hashes anything: it is a label: what it is worth is what the hold of that sum in a sandbox is worth. -/
noncomputable def Tryz.pinned : Pinned := { name := "ytjijikgandkphaagreatdoor", sum := "a269a6868a2e948160566ff6b06eab05da79535641b0eb0f69e095d963038c2f", checked := Tryz.checked }
namespace Rows
def none {H : Type} : Left H := { results := [], args := [] }

/- WHAT THE LISTED PACKAGE-LEVEL VARIABLES READ AS WHEN THE CALL BEGINS. Each datum BY PROGRAM (the guide's laid-datum.mjs) off the statement by which the dump's own 'gosem.cut.vars' lays the variable. In a bare row this is a premise. The card (YtjijikgandkphaaGreatDoorCards.lean) ties it to the program's text. -/
def laid_math_bits_deBruijn32tab {H : Type} : DataW H := .agg [.lit (.int .u8 0), .lit (.int .u8 1), .lit (.int .u8 28), .lit (.int .u8 2), .lit (.int .u8 29), .lit (.int .u8 14), .lit (.int .u8 24), .lit (.int .u8 3), .lit (.int .u8 30), .lit (.int .u8 22), .lit (.int .u8 20), .lit (.int .u8 15), .lit (.int .u8 25), .lit (.int .u8 17), .lit (.int .u8 4), .lit (.int .u8 8), .lit (.int .u8 31), .lit (.int .u8 27), .lit (.int .u8 13), .lit (.int .u8 23), .lit (.int .u8 21), .lit (.int .u8 19), .lit (.int .u8 16), .lit (.int .u8 7), .lit (.int .u8 26), .lit (.int .u8 12), .lit (.int .u8 18), .lit (.int .u8 6), .lit (.int .u8 11), .lit (.int .u8 5), .lit (.int .u8 10), .lit (.int .u8 9)]
def laid_math_bits_deBruijn64tab {H : Type} : DataW H := .agg [.lit (.int .u8 0), .lit (.int .u8 1), .lit (.int .u8 56), .lit (.int .u8 2), .lit (.int .u8 57), .lit (.int .u8 49), .lit (.int .u8 28), .lit (.int .u8 3), .lit (.int .u8 61), .lit (.int .u8 58), .lit (.int .u8 42), .lit (.int .u8 50), .lit (.int .u8 38), .lit (.int .u8 29), .lit (.int .u8 17), .lit (.int .u8 4), .lit (.int .u8 62), .lit (.int .u8 47), .lit (.int .u8 59), .lit (.int .u8 36), .lit (.int .u8 45), .lit (.int .u8 43), .lit (.int .u8 51), .lit (.int .u8 22), .lit (.int .u8 53), .lit (.int .u8 39), .lit (.int .u8 33), .lit (.int .u8 30), .lit (.int .u8 24), .lit (.int .u8 18), .lit (.int .u8 12), .lit (.int .u8 5), .lit (.int .u8 63), .lit (.int .u8 55), .lit (.int .u8 48), .lit (.int .u8 27), .lit (.int .u8 60), .lit (.int .u8 41), .lit (.int .u8 37), .lit (.int .u8 16), .lit (.int .u8 46), .lit (.int .u8 35), .lit (.int .u8 44), .lit (.int .u8 21), .lit (.int .u8 52), .lit (.int .u8 32), .lit (.int .u8 23), .lit (.int .u8 11), .lit (.int .u8 54), .lit (.int .u8 26), .lit (.int .u8 40), .lit (.int .u8 15), .lit (.int .u8 34), .lit (.int .u8 20), .lit (.int .u8 31), .lit (.int .u8 10), .lit (.int .u8 25), .lit (.int .u8 14), .lit (.int .u8 19), .lit (.int .u8 9), .lit (.int .u8 13), .lit (.int .u8 8), .lit (.int .u8 7), .lit (.int .u8 6)]
def laid_internal_strconv_uint64pow10 {H : Type} : DataW H := .agg [.lit (.int .u64 1), .lit (.int .u64 10), .lit (.int .u64 100), .lit (.int .u64 1000), .lit (.int .u64 10000), .lit (.int .u64 100000), .lit (.int .u64 1000000), .lit (.int .u64 10000000), .lit (.int .u64 100000000), .lit (.int .u64 1000000000), .lit (.int .u64 10000000000), .lit (.int .u64 100000000000), .lit (.int .u64 1000000000000), .lit (.int .u64 10000000000000), .lit (.int .u64 100000000000000), .lit (.int .u64 1000000000000000), .lit (.int .u64 10000000000000000), .lit (.int .u64 100000000000000000), .lit (.int .u64 1000000000000000000), .lit (.int .u64 10000000000000000000)]

/-- 'interlocutorlaw11.RenderAll': WHATEVER THE INPUT: true; the input reads as it did. -/
def renderAllSpec : ChangeSpec := { name := "renderAll", fn := fun _ => fun
  | [d1, d2, d3, d4, d5, d6, d7, d8] => { results := [.lit (.bool true)], args := [d1, d2, d3, d4, d5, d6, d7, d8] }
  | _ => none }
def renderAllRow : OpenClaim := { program := "ytjijikgandkphaagreatdoor", sum := "a269a6868a2e948160566ff6b06eab05da79535641b0eb0f69e095d963038c2f", func := "interlocutor/interlocutorlaw11.RenderAll", spec := "renderAll", inPlace := ["internal/abi.NoEscape", "internal/bytealg.MakeNoZero"], unfollowed := true, recurses := true, named := ["internal/strconv.uint64pow10", "math/bits.deBruijn32tab", "math/bits.deBruijn64tab"], apart := false, laid := [("math/bits.deBruijn32tab", laid_math_bits_deBruijn32tab), ("math/bits.deBruijn64tab", laid_math_bits_deBruijn64tab), ("internal/strconv.uint64pow10", laid_internal_strconv_uint64pow10)] }
def RenderAllSaid : Prop := renderAllRow.holds Tryz.pinned (OpenSpec.ofChange renderAllSpec)

/-- ITS FALSE NEIGHBOUR: 'it returns false'. Refute it at one input. -/
def renderAllWrong : ChangeSpec := { name := "renderAll", fn := fun _ => fun
  | [d1, d2, d3, d4, d5, d6, d7, d8] => { results := [.lit (.bool false)], args := [d1, d2, d3, d4, d5, d6, d7, d8] }
  | _ => none }
def RenderAllWrongFalsely : Prop := renderAllRow.holds Tryz.pinned (OpenSpec.ofChange renderAllWrong)

/-- 'interlocutorlaw11.RenderDigits': WHATEVER THE INPUT: true; the input reads as it did. -/
def renderDigitsSpec : ChangeSpec := { name := "renderDigits", fn := fun _ => fun
  | [d1, d2, d3, d4, d5] => { results := [.lit (.bool true)], args := [d1, d2, d3, d4, d5] }
  | _ => none }
def renderDigitsRow : OpenClaim := { program := "ytjijikgandkphaagreatdoor", sum := "a269a6868a2e948160566ff6b06eab05da79535641b0eb0f69e095d963038c2f", func := "interlocutor/interlocutorlaw11.RenderDigits", spec := "renderDigits", inPlace := ["internal/abi.NoEscape", "internal/bytealg.MakeNoZero"], unfollowed := true, recurses := true, named := ["internal/strconv.uint64pow10", "math/bits.deBruijn32tab", "math/bits.deBruijn64tab"], apart := false, laid := [("math/bits.deBruijn32tab", laid_math_bits_deBruijn32tab), ("math/bits.deBruijn64tab", laid_math_bits_deBruijn64tab), ("internal/strconv.uint64pow10", laid_internal_strconv_uint64pow10)] }
def RenderDigitsSaid : Prop := renderDigitsRow.holds Tryz.pinned (OpenSpec.ofChange renderDigitsSpec)

/-- ITS FALSE NEIGHBOUR: 'it returns false'. Refute it at one input. -/
def renderDigitsWrong : ChangeSpec := { name := "renderDigits", fn := fun _ => fun
  | [d1, d2, d3, d4, d5] => { results := [.lit (.bool false)], args := [d1, d2, d3, d4, d5] }
  | _ => none }
def RenderDigitsWrongFalsely : Prop := renderDigitsRow.holds Tryz.pinned (OpenSpec.ofChange renderDigitsWrong)

/-- 'interlocutorlaw11.RenderRange': WHATEVER THE INPUT: true; the input reads as it did. -/
def renderRangeSpec : ChangeSpec := { name := "renderRange", fn := fun _ => fun
  | [d1, d2, d3, d4, d5, d6, d7] => { results := [.lit (.bool true)], args := [d1, d2, d3, d4, d5, d6, d7] }
  | _ => none }
def renderRangeRow : OpenClaim := { program := "ytjijikgandkphaagreatdoor", sum := "a269a6868a2e948160566ff6b06eab05da79535641b0eb0f69e095d963038c2f", func := "interlocutor/interlocutorlaw11.RenderRange", spec := "renderRange", inPlace := ["internal/abi.NoEscape", "internal/bytealg.MakeNoZero"], unfollowed := true, recurses := true, named := ["internal/strconv.uint64pow10", "math/bits.deBruijn32tab", "math/bits.deBruijn64tab"], apart := false, laid := [("math/bits.deBruijn32tab", laid_math_bits_deBruijn32tab), ("math/bits.deBruijn64tab", laid_math_bits_deBruijn64tab), ("internal/strconv.uint64pow10", laid_internal_strconv_uint64pow10)] }
def RenderRangeSaid : Prop := renderRangeRow.holds Tryz.pinned (OpenSpec.ofChange renderRangeSpec)

/-- ITS FALSE NEIGHBOUR: 'it returns false'. Refute it at one input. -/
def renderRangeWrong : ChangeSpec := { name := "renderRange", fn := fun _ => fun
  | [d1, d2, d3, d4, d5, d6, d7] => { results := [.lit (.bool false)], args := [d1, d2, d3, d4, d5, d6, d7] }
  | _ => none }
def RenderRangeWrongFalsely : Prop := renderRangeRow.holds Tryz.pinned (OpenSpec.ofChange renderRangeWrong)

/-- 'interlocutorlaw11.RenderParts': WHATEVER THE INPUT: true; the input reads as it did. -/
def renderPartsSpec : ChangeSpec := { name := "renderParts", fn := fun _ => fun
  | [d1, d2, d3, d4, d5, d6, d7] => { results := [.lit (.bool true)], args := [d1, d2, d3, d4, d5, d6, d7] }
  | _ => none }
def renderPartsRow : OpenClaim := { program := "ytjijikgandkphaagreatdoor", sum := "a269a6868a2e948160566ff6b06eab05da79535641b0eb0f69e095d963038c2f", func := "interlocutor/interlocutorlaw11.RenderParts", spec := "renderParts", inPlace := ["internal/abi.NoEscape", "internal/bytealg.MakeNoZero"], unfollowed := true, recurses := true, named := ["internal/strconv.uint64pow10", "math/bits.deBruijn32tab", "math/bits.deBruijn64tab"], apart := false, laid := [("math/bits.deBruijn32tab", laid_math_bits_deBruijn32tab), ("math/bits.deBruijn64tab", laid_math_bits_deBruijn64tab), ("internal/strconv.uint64pow10", laid_internal_strconv_uint64pow10)] }
def RenderPartsSaid : Prop := renderPartsRow.holds Tryz.pinned (OpenSpec.ofChange renderPartsSpec)

/-- ITS FALSE NEIGHBOUR: 'it returns false'. Refute it at one input. -/
def renderPartsWrong : ChangeSpec := { name := "renderParts", fn := fun _ => fun
  | [d1, d2, d3, d4, d5, d6, d7] => { results := [.lit (.bool false)], args := [d1, d2, d3, d4, d5, d6, d7] }
  | _ => none }
def RenderPartsWrongFalsely : Prop := renderPartsRow.holds Tryz.pinned (OpenSpec.ofChange renderPartsWrong)

/-- 'interlocutorlaw11.RenderWidths': WHATEVER THE INPUT: true; the input reads as it did. -/
def renderWidthsSpec : ChangeSpec := { name := "renderWidths", fn := fun _ => fun
  | [d1, d2, d3] => { results := [.lit (.bool true)], args := [d1, d2, d3] }
  | _ => none }
def renderWidthsRow : OpenClaim := { program := "ytjijikgandkphaagreatdoor", sum := "a269a6868a2e948160566ff6b06eab05da79535641b0eb0f69e095d963038c2f", func := "interlocutor/interlocutorlaw11.RenderWidths", spec := "renderWidths", inPlace := ["internal/abi.NoEscape", "internal/bytealg.MakeNoZero"], unfollowed := true, recurses := true, named := ["internal/strconv.uint64pow10", "math/bits.deBruijn32tab", "math/bits.deBruijn64tab"], apart := false, laid := [("math/bits.deBruijn32tab", laid_math_bits_deBruijn32tab), ("math/bits.deBruijn64tab", laid_math_bits_deBruijn64tab), ("internal/strconv.uint64pow10", laid_internal_strconv_uint64pow10)] }
def RenderWidthsSaid : Prop := renderWidthsRow.holds Tryz.pinned (OpenSpec.ofChange renderWidthsSpec)

/-- ITS FALSE NEIGHBOUR: 'it returns false'. Refute it at one input. -/
def renderWidthsWrong : ChangeSpec := { name := "renderWidths", fn := fun _ => fun
  | [d1, d2, d3] => { results := [.lit (.bool false)], args := [d1, d2, d3] }
  | _ => none }
def RenderWidthsWrongFalsely : Prop := renderWidthsRow.holds Tryz.pinned (OpenSpec.ofChange renderWidthsWrong)

/-- 'interlocutorlaw11.RenderOwn': WHATEVER THE INPUT: true; the input reads as it did. -/
def renderOwnSpec : ChangeSpec := { name := "renderOwn", fn := fun _ => fun
  | [d1, d2, d3, d4, d5, d6] => { results := [.lit (.bool true)], args := [d1, d2, d3, d4, d5, d6] }
  | _ => none }
def renderOwnRow : OpenClaim := { program := "ytjijikgandkphaagreatdoor", sum := "a269a6868a2e948160566ff6b06eab05da79535641b0eb0f69e095d963038c2f", func := "interlocutor/interlocutorlaw11.RenderOwn", spec := "renderOwn", inPlace := ["internal/abi.NoEscape", "internal/bytealg.MakeNoZero"], unfollowed := true, recurses := true, named := ["internal/strconv.uint64pow10", "math/bits.deBruijn32tab", "math/bits.deBruijn64tab"], apart := false, laid := [("math/bits.deBruijn32tab", laid_math_bits_deBruijn32tab), ("math/bits.deBruijn64tab", laid_math_bits_deBruijn64tab), ("internal/strconv.uint64pow10", laid_internal_strconv_uint64pow10)] }
def RenderOwnSaid : Prop := renderOwnRow.holds Tryz.pinned (OpenSpec.ofChange renderOwnSpec)

/-- ITS FALSE NEIGHBOUR: 'it returns false'. Refute it at one input. -/
def renderOwnWrong : ChangeSpec := { name := "renderOwn", fn := fun _ => fun
  | [d1, d2, d3, d4, d5, d6] => { results := [.lit (.bool false)], args := [d1, d2, d3, d4, d5, d6] }
  | _ => none }
def RenderOwnWrongFalsely : Prop := renderOwnRow.holds Tryz.pinned (OpenSpec.ofChange renderOwnWrong)

/- THE SECOND FORM. 'bulk': how many values and letters a reading holds, each counted each time it is reached (what is shared counts as often as it is met; a slice's spare places count too). A statement '..UptoSaid' is the law's where the arguments, and the package variables that the reading takes, are together of bulk at most 1048576: NARROWER than '..Said'. Prove '..Said' where nothing that the law and all that it calls make is longer than what came in: it says more and counts as full. Else prove '..UptoSaid'. A law counts once. -/
mutual
def uptoBulk {H : Type} : DataW H → Nat
  | .lit (.string bytes) => bytes.length + 1
  | .lit _ => 1
  | .nil => 1
  | .ptr d => uptoBulk d + 1
  | .slice elems spare => uptoBulkAll elems + uptoBulkAll spare + 1
  | .agg parts => uptoBulkAll parts + 1
  | .iface _ d => uptoBulk d + 1
  | .map entries => uptoBulkEntries entries + 1
  | .held _ => 1
def uptoBulkAll {H : Type} : List (DataW H) → Nat
  | [] => 0
  | d :: r => uptoBulk d + uptoBulkAll r
def uptoBulkEntries {H : Type} : List (Lit × DataW H) → Nat
  | [] => 0
  | x :: r => uptoBulkEntry x + uptoBulkEntries r
def uptoBulkEntry {H : Type} : Lit × DataW H → Nat
  | (.string bytes, d) => bytes.length + uptoBulk d + 1
  | (_, d) => uptoBulk d + 1
 end
def uptoSmall : (H : Type) → List (DataW H) → Bool := fun _ ds => decide (uptoBulkAll ds ≤ 1048576)
def OpenSpec.upto (s : _root_.Go.ChangeSpec) : _root_.Go.OpenSpec := { _root_.Go.OpenSpec.ofChange s with cond := some uptoSmall }

/-- 'interlocutorlaw11.RenderAll', WHERE WHAT IT READS IS OF BULK AT MOST 1048576: true; the input reads as it did. -/
def renderAllUptoRow : OpenClaim := { program := "ytjijikgandkphaagreatdoor", sum := "a269a6868a2e948160566ff6b06eab05da79535641b0eb0f69e095d963038c2f", func := "interlocutor/interlocutorlaw11.RenderAll", spec := "renderAll", inPlace := ["internal/abi.NoEscape", "internal/bytealg.MakeNoZero"], unfollowed := true, recurses := true, named := ["internal/strconv.uint64pow10", "math/bits.deBruijn32tab", "math/bits.deBruijn64tab"], apart := false, laid := [("math/bits.deBruijn32tab", laid_math_bits_deBruijn32tab), ("math/bits.deBruijn64tab", laid_math_bits_deBruijn64tab), ("internal/strconv.uint64pow10", laid_internal_strconv_uint64pow10)], narrowed := true }
def RenderAllUptoSaid : Prop := renderAllUptoRow.holds Tryz.pinned (OpenSpec.upto renderAllSpec)

/-- 'interlocutorlaw11.RenderDigits', WHERE WHAT IT READS IS OF BULK AT MOST 1048576: true; the input reads as it did. -/
def renderDigitsUptoRow : OpenClaim := { program := "ytjijikgandkphaagreatdoor", sum := "a269a6868a2e948160566ff6b06eab05da79535641b0eb0f69e095d963038c2f", func := "interlocutor/interlocutorlaw11.RenderDigits", spec := "renderDigits", inPlace := ["internal/abi.NoEscape", "internal/bytealg.MakeNoZero"], unfollowed := true, recurses := true, named := ["internal/strconv.uint64pow10", "math/bits.deBruijn32tab", "math/bits.deBruijn64tab"], apart := false, laid := [("math/bits.deBruijn32tab", laid_math_bits_deBruijn32tab), ("math/bits.deBruijn64tab", laid_math_bits_deBruijn64tab), ("internal/strconv.uint64pow10", laid_internal_strconv_uint64pow10)], narrowed := true }
def RenderDigitsUptoSaid : Prop := renderDigitsUptoRow.holds Tryz.pinned (OpenSpec.upto renderDigitsSpec)

/-- 'interlocutorlaw11.RenderRange', WHERE WHAT IT READS IS OF BULK AT MOST 1048576: true; the input reads as it did. -/
def renderRangeUptoRow : OpenClaim := { program := "ytjijikgandkphaagreatdoor", sum := "a269a6868a2e948160566ff6b06eab05da79535641b0eb0f69e095d963038c2f", func := "interlocutor/interlocutorlaw11.RenderRange", spec := "renderRange", inPlace := ["internal/abi.NoEscape", "internal/bytealg.MakeNoZero"], unfollowed := true, recurses := true, named := ["internal/strconv.uint64pow10", "math/bits.deBruijn32tab", "math/bits.deBruijn64tab"], apart := false, laid := [("math/bits.deBruijn32tab", laid_math_bits_deBruijn32tab), ("math/bits.deBruijn64tab", laid_math_bits_deBruijn64tab), ("internal/strconv.uint64pow10", laid_internal_strconv_uint64pow10)], narrowed := true }
def RenderRangeUptoSaid : Prop := renderRangeUptoRow.holds Tryz.pinned (OpenSpec.upto renderRangeSpec)

/-- 'interlocutorlaw11.RenderParts', WHERE WHAT IT READS IS OF BULK AT MOST 1048576: true; the input reads as it did. -/
def renderPartsUptoRow : OpenClaim := { program := "ytjijikgandkphaagreatdoor", sum := "a269a6868a2e948160566ff6b06eab05da79535641b0eb0f69e095d963038c2f", func := "interlocutor/interlocutorlaw11.RenderParts", spec := "renderParts", inPlace := ["internal/abi.NoEscape", "internal/bytealg.MakeNoZero"], unfollowed := true, recurses := true, named := ["internal/strconv.uint64pow10", "math/bits.deBruijn32tab", "math/bits.deBruijn64tab"], apart := false, laid := [("math/bits.deBruijn32tab", laid_math_bits_deBruijn32tab), ("math/bits.deBruijn64tab", laid_math_bits_deBruijn64tab), ("internal/strconv.uint64pow10", laid_internal_strconv_uint64pow10)], narrowed := true }
def RenderPartsUptoSaid : Prop := renderPartsUptoRow.holds Tryz.pinned (OpenSpec.upto renderPartsSpec)

/-- 'interlocutorlaw11.RenderWidths', WHERE WHAT IT READS IS OF BULK AT MOST 1048576: true; the input reads as it did. -/
def renderWidthsUptoRow : OpenClaim := { program := "ytjijikgandkphaagreatdoor", sum := "a269a6868a2e948160566ff6b06eab05da79535641b0eb0f69e095d963038c2f", func := "interlocutor/interlocutorlaw11.RenderWidths", spec := "renderWidths", inPlace := ["internal/abi.NoEscape", "internal/bytealg.MakeNoZero"], unfollowed := true, recurses := true, named := ["internal/strconv.uint64pow10", "math/bits.deBruijn32tab", "math/bits.deBruijn64tab"], apart := false, laid := [("math/bits.deBruijn32tab", laid_math_bits_deBruijn32tab), ("math/bits.deBruijn64tab", laid_math_bits_deBruijn64tab), ("internal/strconv.uint64pow10", laid_internal_strconv_uint64pow10)], narrowed := true }
def RenderWidthsUptoSaid : Prop := renderWidthsUptoRow.holds Tryz.pinned (OpenSpec.upto renderWidthsSpec)

/-- 'interlocutorlaw11.RenderOwn', WHERE WHAT IT READS IS OF BULK AT MOST 1048576: true; the input reads as it did. -/
def renderOwnUptoRow : OpenClaim := { program := "ytjijikgandkphaagreatdoor", sum := "a269a6868a2e948160566ff6b06eab05da79535641b0eb0f69e095d963038c2f", func := "interlocutor/interlocutorlaw11.RenderOwn", spec := "renderOwn", inPlace := ["internal/abi.NoEscape", "internal/bytealg.MakeNoZero"], unfollowed := true, recurses := true, named := ["internal/strconv.uint64pow10", "math/bits.deBruijn32tab", "math/bits.deBruijn64tab"], apart := false, laid := [("math/bits.deBruijn32tab", laid_math_bits_deBruijn32tab), ("math/bits.deBruijn64tab", laid_math_bits_deBruijn64tab), ("internal/strconv.uint64pow10", laid_internal_strconv_uint64pow10)], narrowed := true }
def RenderOwnUptoSaid : Prop := renderOwnUptoRow.holds Tryz.pinned (OpenSpec.upto renderOwnSpec)

end Rows
end Go.Proofs.YtjijikgandkphaaGreatDoor
