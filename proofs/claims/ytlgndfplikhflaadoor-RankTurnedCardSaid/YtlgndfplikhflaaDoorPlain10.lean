/- Plain words for Rank's laws: a number within bounds; what a comparison's sign says. -/
import Derived.Test.YtlgndfplikhflaaDoorGx3
import Derived.Test.YtlgndfplikhflaaDoorGx12
namespace Go.Proofs.YtlgndfplikhflaaDoor.Plain
open Go.RowKit Go.Proofs.YtlgndfplikhflaaDoor.G Go.Proofs.YtlgndfplikhflaaDoorW.PrintWords Go.Proofs.YtlgndfplikhflaaDoorW.PrintLast Go.Proofs.YtlgndfplikhflaaDoorW.PrintMore
set_option linter.unusedVariables false
set_option linter.unusedSimpArgs false
theorem within_ok (a n : Int) (hn : 0 < n) (hn2 : n ≤ 4611686018427387904) : ∃ r, interlocutorlaw10_within.f a n = some r ∧ 0 ≤ r ∧ r < n := by
  unfold interlocutorlaw10_within.f
  rw [if_neg (by omega)]
  have h1 : Int.tmod a n < n := Int.tmod_lt_of_pos a hn
  have h2 : -n < Int.tmod a n := by
    have := Int.tmod_lt_of_pos (-a) hn
    rw [Int.neg_tmod] at this
    omega
  by_cases h : Int.tmod a n < 0
  · rw [if_pos h]
    refine ⟨_, rfl, ?_⟩
    have hw : wrap64 (Int.tmod a n + n) = Int.tmod a n + n := by
      generalize Int.tmod a n = t at *
      unfold wrap64
      omega
    rw [hw]
    generalize Int.tmod a n = t at *
    omega
  · rw [if_neg h]
    exact ⟨_, rfl, by omega, h1⟩
theorem at_drop (l : List Int) (i : Nat) (h : i < l.length) : l.drop i = rd l i :: l.drop (i + 1) := by
  rw [List.drop_eq_getElem_cons h]
  congr 1
  unfold rd
  rw [Int.toNat_natCast, List.getD_eq_getElem?_getD, List.getElem?_eq_getElem h]
  rfl
end Go.Proofs.YtlgndfplikhflaaDoor.Plain
