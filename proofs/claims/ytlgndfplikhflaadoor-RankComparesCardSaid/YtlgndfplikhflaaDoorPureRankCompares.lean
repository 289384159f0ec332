/- RankCompares holds for every input: any two values are held as the document says; turned about the other way about; of three it goes on. No condition. -/
import Derived.Test.YtlgndfplikhflaaDoorPlain10c
import Derived.Test.YtlgndfplikhflaaDoorGx11
namespace Go.Proofs.YtlgndfplikhflaaDoor.Pure
open Go.RowKit Go.Proofs.YtlgndfplikhflaaDoor.G Go.Proofs.YtlgndfplikhflaaDoorW.PrintWords Go.Proofs.YtlgndfplikhflaaDoorW.PrintLast Go.Proofs.YtlgndfplikhflaaDoorW.PrintMore Go.Proofs.YtlgndfplikhflaaDoor.Plain
set_option linter.unusedVariables false
set_option linter.unusedSimpArgs false
theorem compares_true (k : Nat) (a b c : Int) (l m n : List Int) : interlocutorlaw10_RankCompares.j0 (k + 1) true a l b m c n = some true := by
  simp only [interlocutorlaw10_RankCompares.j0, if_true]
theorem RankCompares (a : Int) (l : List Int) (b : Int) (m : List Int) (c : Int) (n : List Int) (_ : (Lit.int .i64 a).wf = true) (_ : ∀ x ∈ l, (Lit.int .i64 x).wf = true) (_ : (Lit.int .i64 b).wf = true) (_ : ∀ x ∈ m, (Lit.int .i64 x).wf = true) (_ : (Lit.int .i64 c).wf = true) (_ : ∀ x ∈ n, (Lit.int .i64 x).wf = true) :
    ∃ k, interlocutorlaw10_RankCompares.f k a l b m c n = some true := by
  have hk : interlocutorlaw10_known.f = some true := rfl
  refine ⟨41, ?_⟩
  unfold interlocutorlaw10_RankCompares.f
  rw [hk, Option.bind_some, if_pos rfl]
  by_cases h1 : (l.length : Int) > 20
  · rw [if_pos h1, compares_true]
  · rw [if_neg h1]
    by_cases h2 : (m.length : Int) > 20
    · rw [if_pos h2, compares_true]
    · rw [if_neg h2]
      by_cases h3 : (n.length : Int) > 20
      · rw [decide_eq_true h3, compares_true]
      · rw [decide_eq_false h3]
        simp only [interlocutorlaw10_RankCompares.j0]
        have hb := cmpV_bound (a, l) (b, m)
        have hn := cmpV_pre.neg (a, l) (b, m)
        have h0 := (cmpV_zero (a, l) (a, l)).2 rfl
        have ht := cmpV_pre.tr (a, l) (b, m) (c, n)
        rw [if_neg (by decide), Cmp_eq a b l m (by omega) 40 (by omega), Option.bind_some, refCmp_eq a b l m (by omega) 40 (by omega), Option.bind_some, if_pos rfl, Cmp_eq b a m l (by omega) 40 (by omega), Option.bind_some, Cmp_eq a a l l (by omega) 40 (by omega), Option.bind_some, Cmp_eq b c m n (by omega) 40 (by omega), Option.bind_some, Cmp_eq a c l n (by omega) 40 (by omega), Option.bind_some]
        generalize cmpV (a, l) (b, m) = x at *
        generalize cmpV (b, m) (c, n) = y at *
        generalize cmpV (a, l) (c, n) = z at *
        have hw : wrap64 (-x) = -x := by unfold wrap64; omega
        rw [hn, hw, if_pos rfl, h0, if_pos rfl]
        by_cases hx : x > 0
        · rw [if_pos hx]
        · rw [if_neg hx]
          by_cases hy : y > 0
          · rw [if_pos hy]
          · rw [if_neg hy, decide_eq_true (ht (by omega) (by omega))]
end Go.Proofs.YtlgndfplikhflaaDoor.Pure
