/- DecNorms holds for every input: any decimal normed is the document's, as much, and as short as can be. No condition. -/
import Derived.Test.YtjbihflpjkaifaaDoorPlain2a
import Derived.Test.YtjbihflpjkaifaaDoorGx8
namespace Go.Proofs.YtjbihflpjkaifaaDoor.Pure
open Go.RowKit Go.Proofs.YtjbihflpjkaifaaDoor.G Go.Proofs.YtjbihflpjkaifaaDoorW.PrintWords Go.Proofs.YtjbihflpjkaifaaDoorW.PrintLast Go.Proofs.YtjbihflpjkaifaaDoorW.PrintMore Go.Proofs.YtjbihflpjkaifaaDoor.Plain
set_option linter.unusedVariables false
set_option linter.unusedSimpArgs false
theorem DecNorms : interlocutorlaw2_DecNorms.Pure := by
  intro a0 a1 w0 w1
  have g0 := i64_of_wf w0
  have g1 := i64_of_wf w1
  obtain ⟨k, hk⟩ : ∃ k : Nat, k = 100 := ⟨_, rfl⟩
  refine ⟨k, ?_⟩
  obtain ⟨m, s, hM, hs, hm0, hm1⟩ := make_ok k (by omega) a0 a1 g0.1 g0.2 g1.1 g1.2
  have hR : interlocutorref2_Norm.f k m (s : Int) = some (normT s m) := rnorm_ok s m k hs (by omega)
  obtain ⟨b, t, j, e1, e2, e3, e4⟩ := normT_spec s m (by omega) (by omega)
  have hb := norm_small b m j e3 1000000000000000000 (by omega) (by omega) (by decide)
  have hC := cmp_ok k (by omega) m b s t hs (by omega) (by omega) (by omega) (by omega) (by omega)
  rw [e3, same_much b t j s e2 hs, cmpI_eq rfl, ← e3] at hC
  unfold interlocutorlaw2_DecNorms.f
  rw [known_ok k (by omega), Option.bind_some, if_pos rfl, hM, Option.bind_some]
  dsimp only
  rw [norm_ok m s hs, Option.bind_some, hR, Option.bind_some, e1]
  dsimp only
  rw [if_pos rfl, if_pos rfl, hC]
  rcases e4 with h | h
  · rw [if_pos (by omega)]
    rfl
  · rw [if_neg h]
    split <;> rfl
end Go.Proofs.YtjbihflpjkaifaaDoor.Pure
