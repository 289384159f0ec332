/- FoldCases holds for every number: capitals and small letters, wide and narrow ones, are folded to one sign. No condition. -/
import Derived.Test.YtmpmjghhikdefaaPlain3
import Derived.Test.YtmpmjghhikdefaaGx23
namespace Go.Proofs.Ytmpmjghhikdefaa.Pure
open Go.RowKit Go.Proofs.Ytmpmjghhikdefaa.G Go.Proofs.YtmpmjghhikdefaaW.PrintWords Go.Proofs.YtmpmjghhikdefaaW.PrintLast Go.Proofs.YtmpmjghhikdefaaW.PrintMore Go.Proofs.Ytmpmjghhikdefaa.Plain
theorem FoldCases : interlocutorlaw3_FoldCases.Pure := by
  intro a0 h0
  refine ⟨60, ?_⟩
  unfold interlocutorlaw3_FoldCases.f
  rw [known_k 60 (by omega)]
  simp only [Option.bind_some, if_true]
  rw [within_ok a0 16 (by omega) (by omega)]
  simp only [Option.bind_some]
  have b0 := Int.emod_nonneg a0 (show (16 : Int) ≠ 0 by omega)
  have b1 := Int.emod_lt_of_pos a0 (show (0 : Int) < 16 by omega)
  generalize a0 % 16 = t at b0 b1 ⊢
  have : t = 0 ∨ t = 1 ∨ t = 2 ∨ t = 3 ∨ t = 4 ∨ t = 5 ∨ t = 6 ∨ t = 7 ∨ t = 8 ∨ t = 9 ∨ t = 10 ∨ t = 11 ∨ t = 12 ∨ t = 13 ∨ t = 14 ∨ t = 15 := by omega
  clear b0 b1
  rcases this with h | h | h | h | h | h | h | h | h | h | h | h | h | h | h | h <;> (subst h; decide +kernel)
end Go.Proofs.Ytmpmjghhikdefaa.Pure
