/- RankTurned holds for every input: readings in another order have the same best. No condition. -/
import Derived.Test.YtlgndfplikhflaaDoorPlain10b
import Derived.Test.YtlgndfplikhflaaDoorGx23
import Derived.Test.YtlgndfplikhflaaDoorGx12
namespace Go.Proofs.YtlgndfplikhflaaDoor.Pure
open Go.RowKit Go.Proofs.YtlgndfplikhflaaDoor.G Go.Proofs.YtlgndfplikhflaaDoorW.PrintWords Go.Proofs.YtlgndfplikhflaaDoorW.PrintLast Go.Proofs.YtlgndfplikhflaaDoorW.PrintMore Go.Proofs.YtlgndfplikhflaaDoor.Plain
set_option linter.unusedVariables false
set_option linter.unusedSimpArgs false
theorem RankTurned : interlocutorlaw10_RankTurned.Pure := by
  intro ns os most hn _ _ _ _ _ _
  obtain ⟨l, g1, g2, g3⟩ := mk_ok ns 40 (by decide) hn
  obtain ⟨t, ht, t0, t1⟩ := within_ok most 50 (by decide) (by decide)
  have hbl := best_len l
  have hlen : (cutTo t (rkBest l)).1.length ≤ 40 := by
    have a := cut_len t (rkBest l)
    omega
  have hok : ∀ x ∈ (cutTo t (rkBest l)).1, okS x := fun x hx => g3 x (best_sub l x (cut_sub t _ x hx))
  refine ⟨20000, if_pos ⟨l, t, (cutTo t (rkBest l)).1, (cutTo t (rkBest l)).2, g1 20000 (by decide), g2, fun x hx => by have := (g3 x hx).2.2; omega, fun hl i hi => ?_, ht, fun l' hp => ?_, same_ok _ (by omega) hok 20000 (by omega)⟩⟩
  · have hp := List.length_pos_iff.2 hl
    obtain ⟨r, hr, r0, r1⟩ := within_ok (rd os (i : Int)) (l.length : Int) (by omega) (by omega)
    exact ⟨r.toNat, by omega, by rw [hr]; congr 1; omega⟩
  · have hb : rkBest l' = rkBest l := YtlgndfplikhflaaDoorW.Rk.best_of cmpV_tot valcost_ext l _ (YtlgndfplikhflaaDoorW.Rk.best_rising cmpV_tot l') fun x => by
      rw [YtlgndfplikhflaaDoorW.Rk.best_mem cmpV_tot valcost_ext]
      unfold YtlgndfplikhflaaDoorW.Rk.isMin
      simp only [hp.mem_iff]
    rw [rank_Best.f_is l' t (by rw [hp.length_eq]; omega) (fun r hr => okS_R (g3 r (hp.mem_iff.1 hr))), bestOf_cut l' t t0, hb]
end Go.Proofs.YtlgndfplikhflaaDoor.Pure
