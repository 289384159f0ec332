/- DecOrders holds for every input: any two decimals are held as the document says; turned about the other way about; of three it goes on. No condition. -/
import Derived.Test.YtjbihflpjkaifaaDoorPlain2a
import Derived.Test.YtjbihflpjkaifaaDoorGx12
namespace Go.Proofs.YtjbihflpjkaifaaDoor.Pure
open Go.RowKit Go.Proofs.YtjbihflpjkaifaaDoor.G Go.Proofs.YtjbihflpjkaifaaDoorW.PrintWords Go.Proofs.YtjbihflpjkaifaaDoorW.PrintLast Go.Proofs.YtjbihflpjkaifaaDoorW.PrintMore Go.Proofs.YtjbihflpjkaifaaDoor.Plain
set_option linter.unusedVariables false
set_option linter.unusedSimpArgs false
theorem le_of_cmpI {x y : Int} (h : ¬ cmpI x y > 0) : x ≤ y := by
  unfold cmpI at h
  split at h
  · omega
  · split at h
    · exact absurd (by decide) h
    · omega
theorem cmpI_of_le {x y : Int} (h : x ≤ y) : cmpI x y ≤ 0 := by
  unfold cmpI
  repeat' split
  all_goals omega
theorem cmpI_wrap (x y : Int) : wrap64 (-(cmpI x y)) = -(cmpI x y) := by
  refine wrapIn _ ?_ ?_ <;> unfold cmpI <;> (repeat' split) <;> omega
theorem cmpI_turn (x y : Int) : cmpI y x = -(cmpI x y) := by
  unfold cmpI
  repeat' split
  all_goals omega
theorem rorder_ok (a b : Int) : interlocutorref2_order.f a b = some (cmpI a b) := by
  unfold interlocutorref2_order.f cmpI
  repeat' split
  all_goals first | rfl | omega
theorem rcmp_ok (k : Nat) (hk : 30 ≤ k) (m n : Int) (s t : Nat) (hs : s ≤ 18) (ht : t ≤ 18) (h0 : -9223372036854775808 ≤ m) (h1 : m ≤ 9223372036854775807) (g0 : -9223372036854775808 ≤ n) (g1 : n ≤ 9223372036854775807) :
    interlocutorref2_Cmp.f k m (s : Int) n (t : Int) = some (cmpI (m * 10 ^ (18 - s)) (n * 10 ^ (18 - t))) := by
  unfold interlocutorref2_Cmp.f
  have p1 := pow_pos' s
  have p2 := pow_pos' t
  have d1 := div_small m s h0 h1
  have d2 := div_small n t g0 g1
  have m1 := mod_small m s hs
  have m2 := mod_small n t ht
  have u1 : wrap64 (18 - (s : Int)) = ((18 - s : Nat) : Int) := by rw [wrapIn _ (by omega) (by omega)]; omega
  have u2 : wrap64 (18 - (t : Int)) = ((18 - t : Nat) : Int) := by rw [wrapIn _ (by omega) (by omega)]; omega
  rw [rten_ok k s hk hs, Option.bind_some, rten_ok k t hk ht, Option.bind_some, if_neg (by omega), if_neg (by omega), rorder_ok, Option.bind_some, u1, u2, rten_ok k (18 - s) hk (by omega), rten_ok k (18 - t) hk (by omega)]
  rw [Option.bind_some, Option.bind_some, rorder_ok, Option.bind_some, wrapIn _ d1.1 d1.2, wrapIn _ d2.1 d2.2, wrapIn _ (by omega) (by omega), wrapIn _ (by omega) (by omega)]
  rw [(scale_div m s hs).1, (scale_div m s hs).2, (scale_div n t ht).1, (scale_div n t ht).2, ← lex_cmp (m * 10 ^ (18 - s)) (n * 10 ^ (18 - t))]
  split <;> rfl
theorem DecOrders : interlocutorlaw2_DecOrders.Pure := by
  intro a0 a1 a2 a3 a4 a5 w0 w1 w2 w3 w4 w5
  have g0 := i64_of_wf w0
  have g1 := i64_of_wf w1
  have g2 := i64_of_wf w2
  have g3 := i64_of_wf w3
  have g4 := i64_of_wf w4
  have g5 := i64_of_wf w5
  obtain ⟨k, hk⟩ : ∃ k : Nat, k = 100 := ⟨_, rfl⟩
  refine ⟨k, ?_⟩
  obtain ⟨m, s, hM, hs, hm0, hm1⟩ := make_ok k (by omega) a0 a1 g0.1 g0.2 g1.1 g1.2
  obtain ⟨n, t, hN, ht, hn0, hn1⟩ := make_ok k (by omega) a2 a3 g2.1 g2.2 g3.1 g3.2
  obtain ⟨l, u, hL, hu, hl0, hl1⟩ := make_ok k (by omega) a4 a5 g4.1 g4.2 g5.1 g5.2
  have c1 := cmp_ok k (by omega) m n s t hs ht (by omega) (by omega) (by omega) (by omega)
  have c2 := rcmp_ok k (by omega) m n s t hs ht (by omega) (by omega) (by omega) (by omega)
  have c3 := cmp_ok k (by omega) n m t s ht hs (by omega) (by omega) (by omega) (by omega)
  have c4 := cmp_ok k (by omega) n l t u ht hu (by omega) (by omega) (by omega) (by omega)
  have c5 := cmp_ok k (by omega) m l s u hs hu (by omega) (by omega) (by omega) (by omega)
  unfold interlocutorlaw2_DecOrders.f
  rw [known_ok k (by omega), Option.bind_some, if_pos rfl, hM, Option.bind_some, hN, Option.bind_some, hL, Option.bind_some]
  dsimp only
  rw [c1, Option.bind_some, c2, Option.bind_some, if_pos rfl, c3, Option.bind_some, c4, c5]
  generalize m * 10 ^ (18 - s) = x
  generalize n * 10 ^ (18 - t) = y
  generalize l * 10 ^ (18 - u) = z
  rw [cmpI_wrap, if_pos (cmpI_turn x y)]
  by_cases h1 : cmpI x y > 0
  · rw [if_pos h1]
  · rw [if_neg h1, Option.bind_some]
    by_cases h2 : cmpI y z > 0
    · rw [if_pos h2]
    · rw [if_neg h2, Option.bind_some]
      have h3 : cmpI x z ≤ 0 := cmpI_of_le (Int.le_trans (le_of_cmpI h1) (le_of_cmpI h2))
      rw [decide_eq_true h3]
end Go.Proofs.YtjbihflpjkaifaaDoor.Pure
