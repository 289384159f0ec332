/- RankParts holds for every input: the best of two rows is the best of their bests. No condition. -/
import Derived.Test.YtlgndfplikhflaaDoorPlain10b
import Derived.Test.YtlgndfplikhflaaDoorGx17
import Derived.Test.YtlgndfplikhflaaDoorGx12
namespace Go.Proofs.YtlgndfplikhflaaDoor.Pure
open Go.RowKit Go.Proofs.YtlgndfplikhflaaDoor.G Go.Proofs.YtlgndfplikhflaaDoorW.PrintWords Go.Proofs.YtlgndfplikhflaaDoorW.PrintLast Go.Proofs.YtlgndfplikhflaaDoorW.PrintMore Go.Proofs.YtlgndfplikhflaaDoor.Plain
set_option linter.unusedVariables false
set_option linter.unusedSimpArgs false
theorem cut_all (l : List S36) (h : l.length ≤ 100) : cutTo 100 l = (l, false) := by unfold cutTo; rw [if_neg (by omega)]
theorem RankParts : interlocutorlaw10_RankParts.Pure := by
  intro ns ms most hn _ _ hm _ _ _
  obtain ⟨l, h1, h2, h3⟩ := mk_ok ns 25 (by decide) hn
  obtain ⟨m, g1, g2, g3⟩ := mk_ok ms 25 (by decide) hm
  obtain ⟨t, ht, t0, t1⟩ := within_ok most 50 (by decide) (by decide)
  have bl := best_len l
  have bm := best_len m
  have blm := best_len (l ++ m)
  rw [List.length_append] at blm
  have sl : ∀ x ∈ rkBest l, okS x := fun x hx => h3 x (best_sub l x hx)
  have sm : ∀ x ∈ rkBest m, okS x := fun x hx => g3 x (best_sub m x hx)
  have slm : ∀ x ∈ l ++ m, okS x := fun x hx => (List.mem_append.1 hx).elim (h3 x) (g3 x)
  have hp : rkBest (rkBest l ++ rkBest m) = rkBest (l ++ m) := YtlgndfplikhflaaDoorW.Rk.best_parts cmpV_tot valcost_ext l m
  have hlen : (cutTo t (rkBest (l ++ m))).1.length ≤ 50 := by
    have a := cut_len t (rkBest (l ++ m))
    omega
  have hok : ∀ x ∈ (cutTo t (rkBest (l ++ m))).1, okS x := fun x hx => slm x (best_sub _ x (cut_sub t _ x hx))
  have e1 : rank_Best.f (l ++ m) t = some (cutTo t (rkBest (l ++ m))) := by
    rw [rank_Best.f_is _ t (by rw [List.length_append]; omega) (fun r hr => okS_R (slm r hr)), bestOf_cut _ t t0]
  have e2 : rank_Best.f l 100 = some (rkBest l, false) := by
    rw [rank_Best.f_is _ 100 (by omega) (fun r hr => okS_R (h3 r hr)), bestOf_cut _ 100 (by decide), cut_all _ (by omega)]
  have e3 : rank_Best.f m 100 = some (rkBest m, false) := by
    rw [rank_Best.f_is _ 100 (by omega) (fun r hr => okS_R (g3 r hr)), bestOf_cut _ 100 (by decide), cut_all _ (by omega)]
  have e4 : rank_Best.f (rkBest l ++ rkBest m) t = some (cutTo t (rkBest (l ++ m))) := by
    rw [rank_Best.f_is _ t (by rw [List.length_append]; omega) (fun r hr => okS_R ((List.mem_append.1 hr).elim (sl r) (sm r))), bestOf_cut _ t t0, hp]
  refine ⟨20000, ?_⟩
  unfold interlocutorlaw10_RankParts.f
  rw [show interlocutorlaw10_known.f = some true from rfl, Option.bind_some, if_pos rfl, show (25 : Int) = ((25 : Nat) : Int) from rfl, h1 20000 (by decide), Option.bind_some, g1 20000 (by decide), Option.bind_some, ht, Option.bind_some]
  simp only [Option.bind_some, List.nil_append, List.length_nil]
  rw [if_pos (by omega), if_pos (by omega), e1, Option.bind_some, e2, Option.bind_some, e3, Option.bind_some]
  simp only [Option.bind_some]
  rw [if_pos (by omega), if_pos (by omega), e4, Option.bind_some, same_ok _ (by omega) hok 20000 (by omega), Option.bind_some]
end Go.Proofs.YtlgndfplikhflaaDoor.Pure
