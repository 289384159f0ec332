/-
  NARROWER THAN 'FOR EVERY INPUT', by the rows' own cells (each row's printed sentence says how): RankCompares: laid · RankBest: laid · RankOrder: laid · RankTurned: laid · RankCodes: laid · RankOwn: laid · RankOnce: laid · RankKinds: laid · RankAgain: laid · RankParts: laid.
  DERIVED. THE GIVEN ROWS OF THIS SEAT. 10 by the template 'for every input the law returns true; each argument reads behind the call as it read before'; 0 by the template 'total and deterministic' (their statements: YtlgndfplikhflaaDoorTotals.lean).
  GIVEN WITH THE SEED: the statements are not yours to turn. If you find one false, say at which input.
  Laid BY PROGRAM, IN A SANDBOX (cutbox-rows.mjs): the forced cells as the released guide's own fill.sh prints them over the translation 767e7a23d599aa39… (all of the seat's roots in one cut). By AI agents, Wed Nov 11 2026. No macro, syntax, notation, axiom, sorry.
-/
import Derived.Test.YtlgndfplikhflaaDoorChecked
import GoSem.Claim
import GoSem.ClaimJoined
import GoSem.ClaimMapViews
import Derived.JoinedTies
import Derived.KernelRfl
namespace Go.Proofs.YtlgndfplikhflaaDoor
/- THE CELL 'sum', in the pinned program and in every row, IS THE sha256 OF THE DUMP (.gsa) THAT YtlgndfplikhflaaDoorProg.lean LOADS. Nothing in Lean hashes anything: it is a label: what it is worth is what the hold of that sum in a sandbox is worth. -/
noncomputable def Tryd.pinned : Pinned := { name := "ytlgndfplikhflaadoor", sum := "767e7a23d599aa398a470b06d77e8dce87088497da192ab23656af814c6ce2d0", checked := Tryd.checked }
namespace Rows
def none {H : Type} : Left H := { results := [], args := [] }

/- WHAT THE LISTED PACKAGE-LEVEL VARIABLES READ AS WHEN THE CALL BEGINS. Each datum BY PROGRAM (the guide's laid-datum.mjs) off the statement by which the dump's own 'gosem.cut.vars' lays the variable. In a bare row this is a premise. The card (YtlgndfplikhflaaDoorCards.lean) ties it to the program's text. -/
def laid_math_bits_deBruijn32tab {H : Type} : DataW H := .agg [.lit (.int .u8 0), .lit (.int .u8 1), .lit (.int .u8 28), .lit (.int .u8 2), .lit (.int .u8 29), .lit (.int .u8 14), .lit (.int .u8 24), .lit (.int .u8 3), .lit (.int .u8 30), .lit (.int .u8 22), .lit (.int .u8 20), .lit (.int .u8 15), .lit (.int .u8 25), .lit (.int .u8 17), .lit (.int .u8 4), .lit (.int .u8 8), .lit (.int .u8 31), .lit (.int .u8 27), .lit (.int .u8 13), .lit (.int .u8 23), .lit (.int .u8 21), .lit (.int .u8 19), .lit (.int .u8 16), .lit (.int .u8 7), .lit (.int .u8 26), .lit (.int .u8 12), .lit (.int .u8 18), .lit (.int .u8 6), .lit (.int .u8 11), .lit (.int .u8 5), .lit (.int .u8 10), .lit (.int .u8 9)]
def laid_math_bits_deBruijn64tab {H : Type} : DataW H := .agg [.lit (.int .u8 0), .lit (.int .u8 1), .lit (.int .u8 56), .lit (.int .u8 2), .lit (.int .u8 57), .lit (.int .u8 49), .lit (.int .u8 28), .lit (.int .u8 3), .lit (.int .u8 61), .lit (.int .u8 58), .lit (.int .u8 42), .lit (.int .u8 50), .lit (.int .u8 38), .lit (.int .u8 29), .lit (.int .u8 17), .lit (.int .u8 4), .lit (.int .u8 62), .lit (.int .u8 47), .lit (.int .u8 59), .lit (.int .u8 36), .lit (.int .u8 45), .lit (.int .u8 43), .lit (.int .u8 51), .lit (.int .u8 22), .lit (.int .u8 53), .lit (.int .u8 39), .lit (.int .u8 33), .lit (.int .u8 30), .lit (.int .u8 24), .lit (.int .u8 18), .lit (.int .u8 12), .lit (.int .u8 5), .lit (.int .u8 63), .lit (.int .u8 55), .lit (.int .u8 48), .lit (.int .u8 27), .lit (.int .u8 60), .lit (.int .u8 41), .lit (.int .u8 37), .lit (.int .u8 16), .lit (.int .u8 46), .lit (.int .u8 35), .lit (.int .u8 44), .lit (.int .u8 21), .lit (.int .u8 52), .lit (.int .u8 32), .lit (.int .u8 23), .lit (.int .u8 11), .lit (.int .u8 54), .lit (.int .u8 26), .lit (.int .u8 40), .lit (.int .u8 15), .lit (.int .u8 34), .lit (.int .u8 20), .lit (.int .u8 31), .lit (.int .u8 10), .lit (.int .u8 25), .lit (.int .u8 14), .lit (.int .u8 19), .lit (.int .u8 9), .lit (.int .u8 13), .lit (.int .u8 8), .lit (.int .u8 7), .lit (.int .u8 6)]
def laid_internal_strconv_uint64pow10 {H : Type} : DataW H := .agg [.lit (.int .u64 1), .lit (.int .u64 10), .lit (.int .u64 100), .lit (.int .u64 1000), .lit (.int .u64 10000), .lit (.int .u64 100000), .lit (.int .u64 1000000), .lit (.int .u64 10000000), .lit (.int .u64 100000000), .lit (.int .u64 1000000000), .lit (.int .u64 10000000000), .lit (.int .u64 100000000000), .lit (.int .u64 1000000000000), .lit (.int .u64 10000000000000), .lit (.int .u64 100000000000000), .lit (.int .u64 1000000000000000), .lit (.int .u64 10000000000000000), .lit (.int .u64 100000000000000000), .lit (.int .u64 1000000000000000000), .lit (.int .u64 10000000000000000000)]

/-- 'interlocutorlaw10.RankCompares': WHATEVER THE INPUT: true; the input reads as it did. -/
def rankComparesSpec : ChangeSpec := { name := "rankCompares", fn := fun _ => fun
  | [d1, d2, d3] => { results := [.lit (.bool true)], args := [d1, d2, d3] }
  | _ => none }
def rankComparesRow : OpenClaim := { program := "ytlgndfplikhflaadoor", sum := "767e7a23d599aa398a470b06d77e8dce87088497da192ab23656af814c6ce2d0", func := "interlocutor/interlocutorlaw10.RankCompares", spec := "rankCompares", unfollowed := true, recurses := true, named := ["internal/strconv.uint64pow10", "math/bits.deBruijn32tab", "math/bits.deBruijn64tab"], apart := false, laid := [("math/bits.deBruijn32tab", laid_math_bits_deBruijn32tab), ("math/bits.deBruijn64tab", laid_math_bits_deBruijn64tab), ("internal/strconv.uint64pow10", laid_internal_strconv_uint64pow10)] }
def RankComparesSaid : Prop := rankComparesRow.holds Tryd.pinned (OpenSpec.ofChange rankComparesSpec)

/-- ITS FALSE NEIGHBOUR: 'it returns false'. Refute it at one input. -/
def rankComparesWrong : ChangeSpec := { name := "rankCompares", fn := fun _ => fun
  | [d1, d2, d3] => { results := [.lit (.bool false)], args := [d1, d2, d3] }
  | _ => none }
def RankComparesWrongFalsely : Prop := rankComparesRow.holds Tryd.pinned (OpenSpec.ofChange rankComparesWrong)

/-- 'interlocutorlaw10.RankBest': WHATEVER THE INPUT: true; the input reads as it did. -/
def rankBestSpec : ChangeSpec := { name := "rankBest", fn := fun _ => fun
  | [d1, d2] => { results := [.lit (.bool true)], args := [d1, d2] }
  | _ => none }
def rankBestRow : OpenClaim := { program := "ytlgndfplikhflaadoor", sum := "767e7a23d599aa398a470b06d77e8dce87088497da192ab23656af814c6ce2d0", func := "interlocutor/interlocutorlaw10.RankBest", spec := "rankBest", unfollowed := true, recurses := true, named := ["internal/strconv.uint64pow10", "math/bits.deBruijn32tab", "math/bits.deBruijn64tab"], apart := false, laid := [("math/bits.deBruijn32tab", laid_math_bits_deBruijn32tab), ("math/bits.deBruijn64tab", laid_math_bits_deBruijn64tab), ("internal/strconv.uint64pow10", laid_internal_strconv_uint64pow10)] }
def RankBestSaid : Prop := rankBestRow.holds Tryd.pinned (OpenSpec.ofChange rankBestSpec)

/-- ITS FALSE NEIGHBOUR: 'it returns false'. Refute it at one input. -/
def rankBestWrong : ChangeSpec := { name := "rankBest", fn := fun _ => fun
  | [d1, d2] => { results := [.lit (.bool false)], args := [d1, d2] }
  | _ => none }
def RankBestWrongFalsely : Prop := rankBestRow.holds Tryd.pinned (OpenSpec.ofChange rankBestWrong)

/-- 'interlocutorlaw10.RankOrder': WHATEVER THE INPUT: true; the input reads as it did. -/
def rankOrderSpec : ChangeSpec := { name := "rankOrder", fn := fun _ => fun
  | [d1, d2] => { results := [.lit (.bool true)], args := [d1, d2] }
  | _ => none }
def rankOrderRow : OpenClaim := { program := "ytlgndfplikhflaadoor", sum := "767e7a23d599aa398a470b06d77e8dce87088497da192ab23656af814c6ce2d0", func := "interlocutor/interlocutorlaw10.RankOrder", spec := "rankOrder", unfollowed := true, recurses := true, named := ["internal/strconv.uint64pow10", "math/bits.deBruijn32tab", "math/bits.deBruijn64tab"], apart := false, laid := [("math/bits.deBruijn32tab", laid_math_bits_deBruijn32tab), ("math/bits.deBruijn64tab", laid_math_bits_deBruijn64tab), ("internal/strconv.uint64pow10", laid_internal_strconv_uint64pow10)] }
def RankOrderSaid : Prop := rankOrderRow.holds Tryd.pinned (OpenSpec.ofChange rankOrderSpec)

/-- ITS FALSE NEIGHBOUR: 'it returns false'. Refute it at one input. -/
def rankOrderWrong : ChangeSpec := { name := "rankOrder", fn := fun _ => fun
  | [d1, d2] => { results := [.lit (.bool false)], args := [d1, d2] }
  | _ => none }
def RankOrderWrongFalsely : Prop := rankOrderRow.holds Tryd.pinned (OpenSpec.ofChange rankOrderWrong)

/-- 'interlocutorlaw10.RankTurned': WHATEVER THE INPUT: true; the input reads as it did. -/
def rankTurnedSpec : ChangeSpec := { name := "rankTurned", fn := fun _ => fun
  | [d1, d2, d3] => { results := [.lit (.bool true)], args := [d1, d2, d3] }
  | _ => none }
def rankTurnedRow : OpenClaim := { program := "ytlgndfplikhflaadoor", sum := "767e7a23d599aa398a470b06d77e8dce87088497da192ab23656af814c6ce2d0", func := "interlocutor/interlocutorlaw10.RankTurned", spec := "rankTurned", unfollowed := true, recurses := true, named := ["internal/strconv.uint64pow10", "math/bits.deBruijn32tab", "math/bits.deBruijn64tab"], apart := false, laid := [("math/bits.deBruijn32tab", laid_math_bits_deBruijn32tab), ("math/bits.deBruijn64tab", laid_math_bits_deBruijn64tab), ("internal/strconv.uint64pow10", laid_internal_strconv_uint64pow10)] }
def RankTurnedSaid : Prop := rankTurnedRow.holds Tryd.pinned (OpenSpec.ofChange rankTurnedSpec)

/-- ITS FALSE NEIGHBOUR: 'it returns false'. Refute it at one input. -/
def rankTurnedWrong : ChangeSpec := { name := "rankTurned", fn := fun _ => fun
  | [d1, d2, d3] => { results := [.lit (.bool false)], args := [d1, d2, d3] }
  | _ => none }
def RankTurnedWrongFalsely : Prop := rankTurnedRow.holds Tryd.pinned (OpenSpec.ofChange rankTurnedWrong)

/-- 'interlocutorlaw10.RankCodes': WHATEVER THE INPUT: true; the input reads as it did. -/
def rankCodesSpec : ChangeSpec := { name := "rankCodes", fn := fun _ => fun
  | [d1, d2, d3, d4] => { results := [.lit (.bool true)], args := [d1, d2, d3, d4] }
  | _ => none }
def rankCodesRow : OpenClaim := { program := "ytlgndfplikhflaadoor", sum := "767e7a23d599aa398a470b06d77e8dce87088497da192ab23656af814c6ce2d0", func := "interlocutor/interlocutorlaw10.RankCodes", spec := "rankCodes", unfollowed := true, recurses := true, named := ["internal/strconv.uint64pow10", "math/bits.deBruijn32tab", "math/bits.deBruijn64tab"], apart := false, laid := [("math/bits.deBruijn32tab", laid_math_bits_deBruijn32tab), ("math/bits.deBruijn64tab", laid_math_bits_deBruijn64tab), ("internal/strconv.uint64pow10", laid_internal_strconv_uint64pow10)] }
def RankCodesSaid : Prop := rankCodesRow.holds Tryd.pinned (OpenSpec.ofChange rankCodesSpec)

/-- ITS FALSE NEIGHBOUR: 'it returns false'. Refute it at one input. -/
def rankCodesWrong : ChangeSpec := { name := "rankCodes", fn := fun _ => fun
  | [d1, d2, d3, d4] => { results := [.lit (.bool false)], args := [d1, d2, d3, d4] }
  | _ => none }
def RankCodesWrongFalsely : Prop := rankCodesRow.holds Tryd.pinned (OpenSpec.ofChange rankCodesWrong)

/-- 'interlocutorlaw10.RankOwn': WHATEVER THE INPUT: true; the input reads as it did. -/
def rankOwnSpec : ChangeSpec := { name := "rankOwn", fn := fun _ => fun
  | [d1, d2, d3] => { results := [.lit (.bool true)], args := [d1, d2, d3] }
  | _ => none }
def rankOwnRow : OpenClaim := { program := "ytlgndfplikhflaadoor", sum := "767e7a23d599aa398a470b06d77e8dce87088497da192ab23656af814c6ce2d0", func := "interlocutor/interlocutorlaw10.RankOwn", spec := "rankOwn", unfollowed := true, recurses := true, named := ["internal/strconv.uint64pow10", "math/bits.deBruijn32tab", "math/bits.deBruijn64tab"], apart := false, laid := [("math/bits.deBruijn32tab", laid_math_bits_deBruijn32tab), ("math/bits.deBruijn64tab", laid_math_bits_deBruijn64tab), ("internal/strconv.uint64pow10", laid_internal_strconv_uint64pow10)] }
def RankOwnSaid : Prop := rankOwnRow.holds Tryd.pinned (OpenSpec.ofChange rankOwnSpec)

/-- ITS FALSE NEIGHBOUR: 'it returns false'. Refute it at one input. -/
def rankOwnWrong : ChangeSpec := { name := "rankOwn", fn := fun _ => fun
  | [d1, d2, d3] => { results := [.lit (.bool false)], args := [d1, d2, d3] }
  | _ => none }
def RankOwnWrongFalsely : Prop := rankOwnRow.holds Tryd.pinned (OpenSpec.ofChange rankOwnWrong)

/-- 'interlocutorlaw10.RankOnce': WHATEVER THE INPUT: true; the input reads as it did. -/
def rankOnceSpec : ChangeSpec := { name := "rankOnce", fn := fun _ => fun
  | [d1, d2] => { results := [.lit (.bool true)], args := [d1, d2] }
  | _ => none }
def rankOnceRow : OpenClaim := { program := "ytlgndfplikhflaadoor", sum := "767e7a23d599aa398a470b06d77e8dce87088497da192ab23656af814c6ce2d0", func := "interlocutor/interlocutorlaw10.RankOnce", spec := "rankOnce", unfollowed := true, recurses := true, named := ["internal/strconv.uint64pow10", "math/bits.deBruijn32tab", "math/bits.deBruijn64tab"], apart := false, laid := [("math/bits.deBruijn32tab", laid_math_bits_deBruijn32tab), ("math/bits.deBruijn64tab", laid_math_bits_deBruijn64tab), ("internal/strconv.uint64pow10", laid_internal_strconv_uint64pow10)] }
def RankOnceSaid : Prop := rankOnceRow.holds Tryd.pinned (OpenSpec.ofChange rankOnceSpec)

/-- ITS FALSE NEIGHBOUR: 'it returns false'. Refute it at one input. -/
def rankOnceWrong : ChangeSpec := { name := "rankOnce", fn := fun _ => fun
  | [d1, d2] => { results := [.lit (.bool false)], args := [d1, d2] }
  | _ => none }
def RankOnceWrongFalsely : Prop := rankOnceRow.holds Tryd.pinned (OpenSpec.ofChange rankOnceWrong)

/-- 'interlocutorlaw10.RankKinds': WHATEVER THE INPUT: true; the input reads as it did. -/
def rankKindsSpec : ChangeSpec := { name := "rankKinds", fn := fun _ => fun
  | [d1, d2, d3, d4] => { results := [.lit (.bool true)], args := [d1, d2, d3, d4] }
  | _ => none }
def rankKindsRow : OpenClaim := { program := "ytlgndfplikhflaadoor", sum := "767e7a23d599aa398a470b06d77e8dce87088497da192ab23656af814c6ce2d0", func := "interlocutor/interlocutorlaw10.RankKinds", spec := "rankKinds", unfollowed := true, recurses := true, named := ["internal/strconv.uint64pow10", "math/bits.deBruijn32tab", "math/bits.deBruijn64tab"], apart := false, laid := [("math/bits.deBruijn32tab", laid_math_bits_deBruijn32tab), ("math/bits.deBruijn64tab", laid_math_bits_deBruijn64tab), ("internal/strconv.uint64pow10", laid_internal_strconv_uint64pow10)] }
def RankKindsSaid : Prop := rankKindsRow.holds Tryd.pinned (OpenSpec.ofChange rankKindsSpec)

/-- ITS FALSE NEIGHBOUR: 'it returns false'. Refute it at one input. -/
def rankKindsWrong : ChangeSpec := { name := "rankKinds", fn := fun _ => fun
  | [d1, d2, d3, d4] => { results := [.lit (.bool false)], args := [d1, d2, d3, d4] }
  | _ => none }
def RankKindsWrongFalsely : Prop := rankKindsRow.holds Tryd.pinned (OpenSpec.ofChange rankKindsWrong)

/-- 'interlocutorlaw10.RankAgain': WHATEVER THE INPUT: true; the input reads as it did. -/
def rankAgainSpec : ChangeSpec := { name := "rankAgain", fn := fun _ => fun
  | [d1, d2] => { results := [.lit (.bool true)], args := [d1, d2] }
  | _ => none }
def rankAgainRow : OpenClaim := { program := "ytlgndfplikhflaadoor", sum := "767e7a23d599aa398a470b06d77e8dce87088497da192ab23656af814c6ce2d0", func := "interlocutor/interlocutorlaw10.RankAgain", spec := "rankAgain", unfollowed := true, recurses := true, named := ["internal/strconv.uint64pow10", "math/bits.deBruijn32tab", "math/bits.deBruijn64tab"], apart := false, laid := [("math/bits.deBruijn32tab", laid_math_bits_deBruijn32tab), ("math/bits.deBruijn64tab", laid_math_bits_deBruijn64tab), ("internal/strconv.uint64pow10", laid_internal_strconv_uint64pow10)] }
def RankAgainSaid : Prop := rankAgainRow.holds Tryd.pinned (OpenSpec.ofChange rankAgainSpec)

/-- ITS FALSE NEIGHBOUR: 'it returns false'. Refute it at one input. -/
def rankAgainWrong : ChangeSpec := { name := "rankAgain", fn := fun _ => fun
  | [d1, d2] => { results := [.lit (.bool false)], args := [d1, d2] }
  | _ => none }
def RankAgainWrongFalsely : Prop := rankAgainRow.holds Tryd.pinned (OpenSpec.ofChange rankAgainWrong)

/-- 'interlocutorlaw10.RankParts': WHATEVER THE INPUT: true; the input reads as it did. -/
def rankPartsSpec : ChangeSpec := { name := "rankParts", fn := fun _ => fun
  | [d1, d2, d3] => { results := [.lit (.bool true)], args := [d1, d2, d3] }
  | _ => none }
def rankPartsRow : OpenClaim := { program := "ytlgndfplikhflaadoor", sum := "767e7a23d599aa398a470b06d77e8dce87088497da192ab23656af814c6ce2d0", func := "interlocutor/interlocutorlaw10.RankParts", spec := "rankParts", unfollowed := true, recurses := true, named := ["internal/strconv.uint64pow10", "math/bits.deBruijn32tab", "math/bits.deBruijn64tab"], apart := false, laid := [("math/bits.deBruijn32tab", laid_math_bits_deBruijn32tab), ("math/bits.deBruijn64tab", laid_math_bits_deBruijn64tab), ("internal/strconv.uint64pow10", laid_internal_strconv_uint64pow10)] }
def RankPartsSaid : Prop := rankPartsRow.holds Tryd.pinned (OpenSpec.ofChange rankPartsSpec)

/-- ITS FALSE NEIGHBOUR: 'it returns false'. Refute it at one input. -/
def rankPartsWrong : ChangeSpec := { name := "rankParts", fn := fun _ => fun
  | [d1, d2, d3] => { results := [.lit (.bool false)], args := [d1, d2, d3] }
  | _ => none }
def RankPartsWrongFalsely : Prop := rankPartsRow.holds Tryd.pinned (OpenSpec.ofChange rankPartsWrong)

/- THE SECOND FORM. 'bulk': how many values and letters a reading holds, each counted each time it is reached (what is shared counts as often as it is met; a slice's spare places count too). A statement '..UptoSaid' is the law's where the arguments, and the package variables that the reading takes, are together of bulk at most 1048576: NARROWER than '..Said'. Prove '..Said' where nothing that the law and all that it calls make is longer than what came in: it says more and counts as full. Else prove '..UptoSaid'. A law counts once. -/
mutual
def uptoBulk {H : Type} : DataW H → Nat
  | .lit (.string bytes) => bytes.length + 1
  | .lit _ => 1
  | .nil => 1
  | .ptr d => uptoBulk d + 1
  | .slice elems spare => uptoBulkAll elems + uptoBulkAll spare + 1
  | .agg parts => uptoBulkAll parts + 1
  | .iface _ d => uptoBulk d + 1
  | .map entries => uptoBulkEntries entries + 1
  | .held _ => 1
def uptoBulkAll {H : Type} : List (DataW H) → Nat
  | [] => 0
  | d :: r => uptoBulk d + uptoBulkAll r
def uptoBulkEntries {H : Type} : List (Lit × DataW H) → Nat
  | [] => 0
  | x :: r => uptoBulkEntry x + uptoBulkEntries r
def uptoBulkEntry {H : Type} : Lit × DataW H → Nat
  | (.string bytes, d) => bytes.length + uptoBulk d + 1
  | (_, d) => uptoBulk d + 1
 end
def uptoSmall : (H : Type) → List (DataW H) → Bool := fun _ ds => decide (uptoBulkAll ds ≤ 1048576)
def OpenSpec.upto (s : _root_.Go.ChangeSpec) : _root_.Go.OpenSpec := { _root_.Go.OpenSpec.ofChange s with cond := some uptoSmall }

/-- 'interlocutorlaw10.RankCompares', WHERE WHAT IT READS IS OF BULK AT MOST 1048576: true; the input reads as it did. -/
def rankComparesUptoRow : OpenClaim := { program := "ytlgndfplikhflaadoor", sum := "767e7a23d599aa398a470b06d77e8dce87088497da192ab23656af814c6ce2d0", func := "interlocutor/interlocutorlaw10.RankCompares", spec := "rankCompares", unfollowed := true, recurses := true, named := ["internal/strconv.uint64pow10", "math/bits.deBruijn32tab", "math/bits.deBruijn64tab"], apart := false, laid := [("math/bits.deBruijn32tab", laid_math_bits_deBruijn32tab), ("math/bits.deBruijn64tab", laid_math_bits_deBruijn64tab), ("internal/strconv.uint64pow10", laid_internal_strconv_uint64pow10)], narrowed := true }
def RankComparesUptoSaid : Prop := rankComparesUptoRow.holds Tryd.pinned (OpenSpec.upto rankComparesSpec)

/-- 'interlocutorlaw10.RankBest', WHERE WHAT IT READS IS OF BULK AT MOST 1048576: true; the input reads as it did. -/
def rankBestUptoRow : OpenClaim := { program := "ytlgndfplikhflaadoor", sum := "767e7a23d599aa398a470b06d77e8dce87088497da192ab23656af814c6ce2d0", func := "interlocutor/interlocutorlaw10.RankBest", spec := "rankBest", unfollowed := true, recurses := true, named := ["internal/strconv.uint64pow10", "math/bits.deBruijn32tab", "math/bits.deBruijn64tab"], apart := false, laid := [("math/bits.deBruijn32tab", laid_math_bits_deBruijn32tab), ("math/bits.deBruijn64tab", laid_math_bits_deBruijn64tab), ("internal/strconv.uint64pow10", laid_internal_strconv_uint64pow10)], narrowed := true }
def RankBestUptoSaid : Prop := rankBestUptoRow.holds Tryd.pinned (OpenSpec.upto rankBestSpec)

/-- 'interlocutorlaw10.RankOrder', WHERE WHAT IT READS IS OF BULK AT MOST 1048576: true; the input reads as it did. -/
def rankOrderUptoRow : OpenClaim := { program := "ytlgndfplikhflaadoor", sum := "767e7a23d599aa398a470b06d77e8dce87088497da192ab23656af814c6ce2d0", func := "interlocutor/interlocutorlaw10.RankOrder", spec := "rankOrder", unfollowed := true, recurses := true, named := ["internal/strconv.uint64pow10", "math/bits.deBruijn32tab", "math/bits.deBruijn64tab"], apart := false, laid := [("math/bits.deBruijn32tab", laid_math_bits_deBruijn32tab), ("math/bits.deBruijn64tab", laid_math_bits_deBruijn64tab), ("internal/strconv.uint64pow10", laid_internal_strconv_uint64pow10)], narrowed := true }
def RankOrderUptoSaid : Prop := rankOrderUptoRow.holds Tryd.pinned (OpenSpec.upto rankOrderSpec)

/-- 'interlocutorlaw10.RankTurned', WHERE WHAT IT READS IS OF BULK AT MOST 1048576: true; the input reads as it did. -/
def rankTurnedUptoRow : OpenClaim := { program := "ytlgndfplikhflaadoor", sum := "767e7a23d599aa398a470b06d77e8dce87088497da192ab23656af814c6ce2d0", func := "interlocutor/interlocutorlaw10.RankTurned", spec := "rankTurned", unfollowed := true, recurses := true, named := ["internal/strconv.uint64pow10", "math/bits.deBruijn32tab", "math/bits.deBruijn64tab"], apart := false, laid := [("math/bits.deBruijn32tab", laid_math_bits_deBruijn32tab), ("math/bits.deBruijn64tab", laid_math_bits_deBruijn64tab), ("internal/strconv.uint64pow10", laid_internal_strconv_uint64pow10)], narrowed := true }
def RankTurnedUptoSaid : Prop := rankTurnedUptoRow.holds Tryd.pinned (OpenSpec.upto rankTurnedSpec)

/-- 'interlocutorlaw10.RankCodes', WHERE WHAT IT READS IS OF BULK AT MOST 1048576: true; the input reads as it did. -/
def rankCodesUptoRow : OpenClaim := { program := "ytlgndfplikhflaadoor", sum := "767e7a23d599aa398a470b06d77e8dce87088497da192ab23656af814c6ce2d0", func := "interlocutor/interlocutorlaw10.RankCodes", spec := "rankCodes", unfollowed := true, recurses := true, named := ["internal/strconv.uint64pow10", "math/bits.deBruijn32tab", "math/bits.deBruijn64tab"], apart := false, laid := [("math/bits.deBruijn32tab", laid_math_bits_deBruijn32tab), ("math/bits.deBruijn64tab", laid_math_bits_deBruijn64tab), ("internal/strconv.uint64pow10", laid_internal_strconv_uint64pow10)], narrowed := true }
def RankCodesUptoSaid : Prop := rankCodesUptoRow.holds Tryd.pinned (OpenSpec.upto rankCodesSpec)

/-- 'interlocutorlaw10.RankOwn', WHERE WHAT IT READS IS OF BULK AT MOST 1048576: true; the input reads as it did. -/
def rankOwnUptoRow : OpenClaim := { program := "ytlgndfplikhflaadoor", sum := "767e7a23d599aa398a470b06d77e8dce87088497da192ab23656af814c6ce2d0", func := "interlocutor/interlocutorlaw10.RankOwn", spec := "rankOwn", unfollowed := true, recurses := true, named := ["internal/strconv.uint64pow10", "math/bits.deBruijn32tab", "math/bits.deBruijn64tab"], apart := false, laid := [("math/bits.deBruijn32tab", laid_math_bits_deBruijn32tab), ("math/bits.deBruijn64tab", laid_math_bits_deBruijn64tab), ("internal/strconv.uint64pow10", laid_internal_strconv_uint64pow10)], narrowed := true }
def RankOwnUptoSaid : Prop := rankOwnUptoRow.holds Tryd.pinned (OpenSpec.upto rankOwnSpec)

/-- 'interlocutorlaw10.RankOnce', WHERE WHAT IT READS IS OF BULK AT MOST 1048576: true; the input reads as it did. -/
def rankOnceUptoRow : OpenClaim := { program := "ytlgndfplikhflaadoor", sum := "767e7a23d599aa398a470b06d77e8dce87088497da192ab23656af814c6ce2d0", func := "interlocutor/interlocutorlaw10.RankOnce", spec := "rankOnce", unfollowed := true, recurses := true, named := ["internal/strconv.uint64pow10", "math/bits.deBruijn32tab", "math/bits.deBruijn64tab"], apart := false, laid := [("math/bits.deBruijn32tab", laid_math_bits_deBruijn32tab), ("math/bits.deBruijn64tab", laid_math_bits_deBruijn64tab), ("internal/strconv.uint64pow10", laid_internal_strconv_uint64pow10)], narrowed := true }
def RankOnceUptoSaid : Prop := rankOnceUptoRow.holds Tryd.pinned (OpenSpec.upto rankOnceSpec)

/-- 'interlocutorlaw10.RankKinds', WHERE WHAT IT READS IS OF BULK AT MOST 1048576: true; the input reads as it did. -/
def rankKindsUptoRow : OpenClaim := { program := "ytlgndfplikhflaadoor", sum := "767e7a23d599aa398a470b06d77e8dce87088497da192ab23656af814c6ce2d0", func := "interlocutor/interlocutorlaw10.RankKinds", spec := "rankKinds", unfollowed := true, recurses := true, named := ["internal/strconv.uint64pow10", "math/bits.deBruijn32tab", "math/bits.deBruijn64tab"], apart := false, laid := [("math/bits.deBruijn32tab", laid_math_bits_deBruijn32tab), ("math/bits.deBruijn64tab", laid_math_bits_deBruijn64tab), ("internal/strconv.uint64pow10", laid_internal_strconv_uint64pow10)], narrowed := true }
def RankKindsUptoSaid : Prop := rankKindsUptoRow.holds Tryd.pinned (OpenSpec.upto rankKindsSpec)

/-- 'interlocutorlaw10.RankAgain', WHERE WHAT IT READS IS OF BULK AT MOST 1048576: true; the input reads as it did. -/
def rankAgainUptoRow : OpenClaim := { program := "ytlgndfplikhflaadoor", sum := "767e7a23d599aa398a470b06d77e8dce87088497da192ab23656af814c6ce2d0", func := "interlocutor/interlocutorlaw10.RankAgain", spec := "rankAgain", unfollowed := true, recurses := true, named := ["internal/strconv.uint64pow10", "math/bits.deBruijn32tab", "math/bits.deBruijn64tab"], apart := false, laid := [("math/bits.deBruijn32tab", laid_math_bits_deBruijn32tab), ("math/bits.deBruijn64tab", laid_math_bits_deBruijn64tab), ("internal/strconv.uint64pow10", laid_internal_strconv_uint64pow10)], narrowed := true }
def RankAgainUptoSaid : Prop := rankAgainUptoRow.holds Tryd.pinned (OpenSpec.upto rankAgainSpec)

/-- 'interlocutorlaw10.RankParts', WHERE WHAT IT READS IS OF BULK AT MOST 1048576: true; the input reads as it did. -/
def rankPartsUptoRow : OpenClaim := { program := "ytlgndfplikhflaadoor", sum := "767e7a23d599aa398a470b06d77e8dce87088497da192ab23656af814c6ce2d0", func := "interlocutor/interlocutorlaw10.RankParts", spec := "rankParts", unfollowed := true, recurses := true, named := ["internal/strconv.uint64pow10", "math/bits.deBruijn32tab", "math/bits.deBruijn64tab"], apart := false, laid := [("math/bits.deBruijn32tab", laid_math_bits_deBruijn32tab), ("math/bits.deBruijn64tab", laid_math_bits_deBruijn64tab), ("internal/strconv.uint64pow10", laid_internal_strconv_uint64pow10)], narrowed := true }
def RankPartsUptoSaid : Prop := rankPartsUptoRow.holds Tryd.pinned (OpenSpec.upto rankPartsSpec)

end Rows
end Go.Proofs.YtlgndfplikhflaaDoor
