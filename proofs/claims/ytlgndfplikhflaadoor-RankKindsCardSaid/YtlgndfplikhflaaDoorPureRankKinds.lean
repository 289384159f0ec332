/- RankKinds holds for every input: of two values the kinds come first, then how many fields, then the fields from the first on. No condition. -/
import Derived.Test.YtlgndfplikhflaaDoorPlain10
import Derived.Test.YtlgndfplikhflaaDoorGx10
namespace Go.Proofs.YtlgndfplikhflaaDoor.Pure
open Go.RowKit Go.Proofs.YtlgndfplikhflaaDoor.G Go.Proofs.YtlgndfplikhflaaDoorW.PrintWords Go.Proofs.YtlgndfplikhflaaDoorW.PrintLast Go.Proofs.YtlgndfplikhflaaDoorW.PrintMore Go.Proofs.YtlgndfplikhflaaDoor.Plain
set_option linter.unusedVariables false
set_option linter.unusedSimpArgs false
theorem kinds_loop (l2 l3 : List Int) (he : l2.length = l3.length) (hl : l2.length ≤ 10) : ∀ (n i : Nat), i + n = l2.length → ∀ k, n + 1 ≤ k → interlocutorlaw10_RankKinds.l0 k l2 l3 (cmpL (l2.drop i) (l3.drop i)) (i : Int) = some true := by
  intro n
  induction n with
  | zero =>
    intro i hi k hk
    obtain ⟨k, rfl⟩ : ∃ j, k = j + 1 := ⟨k - 1, by omega⟩
    simp only [interlocutorlaw10_RankKinds.l0]
    rw [if_neg (by omega), List.drop_of_length_le (by omega), List.drop_of_length_le (by omega)]
    rfl
  | succ n ih =>
    intro i hi k hk
    obtain ⟨k, rfl⟩ : ∃ j, k = j + 1 := ⟨k - 1, by omega⟩
    simp only [interlocutorlaw10_RankKinds.l0]
    rw [if_pos (by omega), if_pos (by omega), if_pos (by omega), at_drop l2 i (by omega), at_drop l3 i (by omega)]
    have hw : wrap64 ((i : Int) + 1) = ((i + 1 : Nat) : Int) := by unfold wrap64; omega
    have hs := cmpI_sign (rd l2 i) (rd l3 i)
    by_cases h : rd l2 i = rd l3 i
    · rw [if_pos h, hw]
      have e : cmpL (rd l2 i :: l2.drop (i + 1)) (rd l3 i :: l3.drop (i + 1)) = cmpL (l2.drop (i + 1)) (l3.drop (i + 1)) := by
        simp only [cmpL, or2]
        rw [if_pos ((cmpI_zero _ _).2 h)]
      rw [e]
      exact ih (i + 1) (by omega) k (by omega)
    · have e : cmpL (rd l2 i :: l2.drop (i + 1)) (rd l3 i :: l3.drop (i + 1)) = cmpI (rd l2 i) (rd l3 i) := by
        simp only [cmpL, or2]
        rw [if_neg (mt (cmpI_zero _ _).1 h)]
      rw [if_neg h, e, if_pos (beq_iff_eq.mpr (decide_eq_decide.mpr hs.1))]
      have := hs.2 h
      simpa using this
theorem RankKinds : interlocutorlaw10_RankKinds.Pure := by
  intro a0 a1 l2 l3 _ _ _ _ _ _ _ _
  have hk : interlocutorlaw10_known.f = some true := rfl
  by_cases h2 : (l2.length : Int) > 10
  · refine ⟨1, ?_⟩
    unfold interlocutorlaw10_RankKinds.f
    rw [hk, Option.bind_some, if_pos rfl, if_pos h2]
    rfl
  · by_cases h3 : (l3.length : Int) > 10
    · refine ⟨1, ?_⟩
      unfold interlocutorlaw10_RankKinds.f
      rw [hk, Option.bind_some, if_pos rfl, if_neg h2, decide_eq_true h3]
      rfl
    · refine ⟨41, ?_⟩
      unfold interlocutorlaw10_RankKinds.f
      rw [hk, Option.bind_some, if_pos rfl, if_neg h2, decide_eq_false h3]
      simp only [interlocutorlaw10_RankKinds.j0]
      obtain ⟨x, hx, _, _⟩ := within_ok a0 12 (by decide) (by decide)
      obtain ⟨y, hy, _, _⟩ := within_ok a1 12 (by decide) (by decide)
      rw [if_neg (by decide), hx, Option.bind_some, hy, Option.bind_some, Cmp_eq x y l2 l3 (by omega) 40 (by omega), Option.bind_some]
      have s1 := cmpI_sign x y
      have s2 := cmpI_sign (l2.length : Int) (l3.length : Int)
      by_cases e1 : x = y
      · have z1 := (cmpI_zero x y).2 e1
        rw [if_pos e1]
        by_cases e2 : (l2.length : Int) = (l3.length : Int)
        · have z2 := (cmpI_zero _ _).2 e2
          rw [if_pos e2]
          have e : cmpV (x, l2) (y, l3) = cmpL (l2.drop 0) (l3.drop 0) := by simp only [cmpV, or2, z1, z2, if_true, List.drop_zero]
          rw [e]
          exact kinds_loop l2 l3 (by omega) (by omega) l2.length 0 (by omega) 40 (by omega)
        · have z2 := mt (cmpI_zero _ _).1 e2
          have e : cmpV (x, l2) (y, l3) = cmpI (l2.length : Int) (l3.length : Int) := by simp only [cmpV, or2, z1, if_true]; rw [if_neg z2]
          rw [if_neg e2, e, if_pos (beq_iff_eq.mpr (decide_eq_decide.mpr s2.1))]
          have := s2.2 e2
          simpa using this
      · have z1 := mt (cmpI_zero _ _).1 e1
        have e : cmpV (x, l2) (y, l3) = cmpI x y := by simp only [cmpV, or2]; rw [if_neg z1]
        rw [if_neg e1, e, if_pos (beq_iff_eq.mpr (decide_eq_decide.mpr s1.1))]
        have := s1.2 e1
        simpa using this
end Go.Proofs.YtlgndfplikhflaaDoor.Pure
