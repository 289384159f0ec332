/- FoldOnes holds for every number: each sign by itself is one rune, as long as it is. No condition. -/
import Derived.Test.YtmpmjghhikdefaaPlain3g
import Derived.Test.YtmpmjghhikdefaaGx22
namespace Go.Proofs.Ytmpmjghhikdefaa.Pure
open Go.RowKit Go.Proofs.Ytmpmjghhikdefaa.G Go.Proofs.YtmpmjghhikdefaaW.PrintWords Go.Proofs.YtmpmjghhikdefaaW.PrintLast Go.Proofs.YtmpmjghhikdefaaW.PrintMore Go.Proofs.Ytmpmjghhikdefaa.Plain
set_option linter.unusedVariables false
set_option linter.unusedSimpArgs false
theorem fold_one (r : Int) (h : Sign r) : fold_Fold.f (strOfNums (Lib.encodeRuneZ r)) = some ([runeP r], [0, ((strOfNums (Lib.encodeRuneZ r)).size : Int)]) := by
  have hz := Lib.encodeRuneZ_length r
  have e : strOfNums (Lib.encodeRuneZ r) = strOfNums ([r].flatMap Lib.encodeRuneZ) := by simp
  have hs : ∀ x ∈ [r], Sign x := fun x hx => by rw [List.mem_singleton.1 hx]; exact h
  rw [fold_runes _ (by rw [nums_size]; omega), e, runes_enc [r] hs, sgnOf_enc [r] hs]
  rfl
theorem FoldOnes : interlocutorlaw3_FoldOnes.Pure := by
  intro a0 _
  obtain ⟨k, hk⟩ : ∃ k : Nat, k = 100 := ⟨_, rfl⟩
  refine ⟨k + 1, ?_⟩
  unfold interlocutorlaw3_FoldOnes.f
  rw [known_k _ (by omega), Option.bind_some, if_pos rfl, within_ok a0 1114112 (by omega) (by omega), Option.bind_some]
  have b0 := Int.emod_nonneg a0 (show (1114112 : Int) ≠ 0 by omega)
  have b1 := Int.emod_lt_of_pos a0 (show (0 : Int) < 1114112 by omega)
  generalize a0 % 1114112 = r at b0 b1 ⊢
  have one : ∀ q : Int, Sign q → ((interlocutorref3_One.f q).bind fun t431 => ((fold_Fold.f t431).bind fun bt432 => (if (bt432.1.length : Int) = 1 then (if 0 < (bt432.1.length : Int) then ((interlocutorref3_Rune.f k q).bind fun t439 => (if (rd bt432.1 0) = t439 then (if (bt432.2.length : Int) = 2 then (if 0 < (bt432.2.length : Int) then (if (rd bt432.2 0) = 0 then (if 1 < (bt432.2.length : Int) then (some ((rd bt432.2 1) == (t431.size : Int))) else (none)) else (some false)) else (none)) else (some false)) else (some false))) else (none)) else (some false)))) = some true := by
    intro q hq
    have f := fold_one q hq
    have hr : interlocutorref3_Rune.f k q = some (runeP q) := ref_rune_k k (by omega) q (by have := hq.1; omega) (by have := hq.2.1; omega)
    rw [one_ok q hq, Option.bind_some]
    generalize strOfNums (Lib.encodeRuneZ q) = s at f ⊢
    rw [f, Option.bind_some]
    dsimp only
    have l1 : (([runeP q] : List Int).length : Int) = 1 := rfl
    have l2 : (([0, (s.size : Int)] : List Int).length : Int) = 2 := rfl
    have d0 : rd [runeP q] 0 = runeP q := rfl
    have d1 : rd [0, (s.size : Int)] 0 = 0 := rfl
    have d2 : rd [0, (s.size : Int)] 1 = (s.size : Int) := rfl
    rw [l1, l2, if_pos rfl, if_pos (by omega), hr, Option.bind_some, d0, if_pos rfl, if_pos rfl, if_pos (by omega), d1, if_pos rfl, if_pos (by omega), d2]
    simp
  have sur : interlocutorlaw3_FoldOnes.j0 (k + 1) r true = some true := by
    simp only [interlocutorlaw3_FoldOnes.j0]
    rw [if_pos trivial]
    exact one 8364 (by unfold Sign; omega)
  have nos : ¬ (55296 ≤ r ∧ r ≤ 57343) → interlocutorlaw3_FoldOnes.j0 (k + 1) r false = some true := by
    intro h
    simp only [interlocutorlaw3_FoldOnes.j0]
    rw [if_neg (by simp)]
    exact one r ⟨b0, by omega, h⟩
  by_cases c : r ≥ 55296
  · rw [if_pos c]
    by_cases c2 : r ≤ 57343
    · rw [decide_eq_true c2]; exact sur
    · rw [decide_eq_false c2]; exact nos (by omega)
  · rw [if_neg c]; exact nos (by omega)
end Go.Proofs.Ytmpmjghhikdefaa.Pure
