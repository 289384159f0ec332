/- FoldTwice holds for every two rows: what was folded is folded to itself. No condition. -/
import Derived.Test.YtmpmjghhikdefaaPlain3g
import Derived.Test.YtmpmjghhikdefaaGx16
namespace Go.Proofs.Ytmpmjghhikdefaa.Pure
open Go.RowKit Go.Proofs.Ytmpmjghhikdefaa.G Go.Proofs.YtmpmjghhikdefaaW.PrintWords Go.Proofs.YtmpmjghhikdefaaW.PrintLast Go.Proofs.YtmpmjghhikdefaaW.PrintMore Go.Proofs.Ytmpmjghhikdefaa.Plain
set_option linter.unusedVariables false
set_option linter.unusedSimpArgs false
theorem FoldTwice : interlocutorlaw3_FoldTwice.Pure := by
  intro l0 l1 _ _ _ _ _ _
  refine ⟨20000, ?_⟩
  unfold interlocutorlaw3_FoldTwice.f
  rw [known_k _ (by omega)]
  simp only [Option.bind_some, if_true]
  by_cases c : (l1.length : Int) > 60
  · rw [if_pos c]
  rw [if_neg c]
  obtain ⟨s, hs, hz⟩ := signs_ok l0 l1 (by omega) 20000 (by omega)
  have hl := runesOf_length s
  have he := (encz_length (runesOf s)).2
  have hz2 : (strOfNums ((runesOf s).flatMap Lib.encodeRuneZ)).size ≤ 10240 := by rw [nums_size]; omega
  rw [hs]
  simp only [Option.bind_some]
  rw [text_runes s (by omega), fold_runes s (by omega)]
  simp only [Option.bind_some]
  rw [fold_runes _ (by omega), text_runes _ (by omega), runesOf_text]
  simp only [Option.bind_some]
  rw [if_pos trivial, ints_ok _ _ (by omega) 20000 (by omega)]
  simp
end Go.Proofs.Ytmpmjghhikdefaa.Pure
