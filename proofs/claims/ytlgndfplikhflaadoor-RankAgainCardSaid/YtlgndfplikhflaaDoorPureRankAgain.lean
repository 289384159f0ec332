/- RankAgain holds for every input: the best of the best are these. No condition. -/
import Derived.Test.YtlgndfplikhflaaDoorPlain10b
import Derived.Test.YtlgndfplikhflaaDoorGx17
import Derived.Test.YtlgndfplikhflaaDoorGx12
namespace Go.Proofs.YtlgndfplikhflaaDoor.Pure
open Go.RowKit Go.Proofs.YtlgndfplikhflaaDoor.G Go.Proofs.YtlgndfplikhflaaDoorW.PrintWords Go.Proofs.YtlgndfplikhflaaDoorW.PrintLast Go.Proofs.YtlgndfplikhflaaDoorW.PrintMore Go.Proofs.YtlgndfplikhflaaDoor.Plain
set_option linter.unusedVariables false
set_option linter.unusedSimpArgs false
theorem again (l a : List S36) (hs : a.Sublist (rkBest l)) : rkBest a = a :=
  YtlgndfplikhflaaDoorW.Rk.best_again cmpV_tot valcost_ext a ((YtlgndfplikhflaaDoorW.Rk.best_rising cmpV_tot l).sublist hs) ((YtlgndfplikhflaaDoorW.Rk.best_apart (c := cmpV) (v := rvalOf) (k := rcostOf) l).sublist hs)
theorem cut_sublist (m : Int) (l : List S36) : (cutTo m l).1.Sublist l := by
  unfold cutTo
  split
  · exact List.take_sublist _ _
  · exact List.Sublist.refl _
theorem RankAgain : interlocutorlaw10_RankAgain.Pure := by
  intro ns most hn _ _ _
  obtain ⟨l, h1, h2, h3⟩ := mk_ok ns 40 (by decide) hn
  obtain ⟨t, ht, t0, t1⟩ := within_ok most 50 (by decide) (by decide)
  have hlen : (cutTo t (rkBest l)).1.length ≤ 40 := by
    have a := cut_len t (rkBest l)
    have b := best_len l
    omega
  have hok : ∀ x ∈ (cutTo t (rkBest l)).1, okS x := fun x hx => h3 x (best_sub l x (cut_sub t _ x hx))
  have hag := again l _ (cut_sublist t (rkBest l))
  refine ⟨20000, ?_⟩
  unfold interlocutorlaw10_RankAgain.f
  rw [show interlocutorlaw10_known.f = some true from rfl, Option.bind_some, if_pos rfl, show (40 : Int) = ((40 : Nat) : Int) from rfl, h1 20000 (by decide), Option.bind_some, ht, Option.bind_some,
    rank_Best.f_is l t (by omega) (fun r hr => okS_R (h3 r hr)), Option.bind_some, bestOf_cut l t t0]
  generalize (cutTo t (rkBest l)).1 = a at *
  rw [rank_Best.f_is a 50 (by omega) (fun r hr => okS_R (hok r hr)), Option.bind_some, bestOf_cut a 50 (by decide), hag]
  have hc : cutTo 50 a = (a, false) := by unfold cutTo; rw [if_neg (by omega)]
  rw [hc]
  show (interlocutorref10_Same.f 20000 a a).bind _ = _
  rw [same_ok a (by omega) hok 20000 (by omega), Option.bind_some, if_pos rfl]
  rfl
end Go.Proofs.YtlgndfplikhflaaDoor.Pure
