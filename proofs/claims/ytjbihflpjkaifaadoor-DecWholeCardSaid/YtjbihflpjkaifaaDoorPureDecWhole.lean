/- DecWhole holds for every input: a whole number in any scale is as much, and is normed to itself. No condition. -/
import Derived.Test.YtjbihflpjkaifaaDoorPlain2a
import Derived.Test.YtjbihflpjkaifaaDoorGx13
namespace Go.Proofs.YtjbihflpjkaifaaDoor.Pure
open Go.RowKit Go.Proofs.YtjbihflpjkaifaaDoor.G Go.Proofs.YtjbihflpjkaifaaDoorW.PrintWords Go.Proofs.YtjbihflpjkaifaaDoorW.PrintLast Go.Proofs.YtjbihflpjkaifaaDoorW.PrintMore Go.Proofs.YtjbihflpjkaifaaDoor.Plain
set_option linter.unusedVariables false
set_option linter.unusedSimpArgs false
theorem normT_whole : ∀ (s : Nat) (q : Int), 0 ≤ q * 10 ^ s → q * 10 ^ s ≤ 9223372036854775807 → normT s (q * 10 ^ s) = (q, 0)
  | 0, q, _, _ => by simp [normT]
  | s + 1, q, h0, h1 => by
    have e : q * 10 ^ (s + 1) = q * 10 ^ s * 10 := by rw [Int.pow_succ, Int.mul_assoc]
    rw [normT, if_pos (by rw [e]; exact Int.mul_tmod_left _ _)]
    have hd : Int.tdiv (q * 10 ^ (s + 1)) 10 = q * 10 ^ s := by rw [e]; exact Int.mul_tdiv_cancel _ (by decide)
    rw [hd, wrapIn (q * 10 ^ s) (by omega) (by omega)]
    exact normT_whole s q (by omega) (by omega)
theorem whole_small (q : Int) (s : Nat) (hs : s ≤ 11) (h0 : 0 ≤ q) (h1 : q < 1000000) : 0 ≤ q * 10 ^ s ∧ q * 10 ^ s < 1000000000000000000 := by
  have hp := pow_pos' s
  have h2 : (10 : Int) ^ s ≤ 100000000000 := (show ∀ s : Fin 12, (10 : Int) ^ s.val ≤ 100000000000 by decide +kernel) ⟨s, by omega⟩
  generalize (10 : Int) ^ s = P at *
  have m1 : q * 0 ≤ q * P := Int.mul_le_mul_of_nonneg_left (by omega) h0
  have m2 : q * P ≤ q * 100000000000 := Int.mul_le_mul_of_nonneg_left h2 h0
  omega
theorem DecWhole : interlocutorlaw2_DecWhole.Pure := by
  intro a0 a1 w0 w1
  obtain ⟨k, hk⟩ : ∃ k : Nat, k = 100 := ⟨_, rfl⟩
  refine ⟨k, ?_⟩
  unfold interlocutorlaw2_DecWhole.f
  rw [known_ok k (by omega), Option.bind_some, if_pos rfl, within_ok a0 1000000 (by decide) (by decide), Option.bind_some, within_ok a1 12 (by decide) (by decide), Option.bind_some]
  obtain ⟨q, hq, hq0, hq1⟩ : ∃ x, a0 % 1000000 = x ∧ 0 ≤ x ∧ x < 1000000 := ⟨_, rfl, by omega, by omega⟩
  obtain ⟨s, hs, hs1⟩ : ∃ s : Nat, a1 % 12 = (s : Int) ∧ s ≤ 11 := ⟨(a1 % 12).toNat, by omega, by omega⟩
  rw [hq, hs, rten_ok k s (by omega) (by omega), Option.bind_some]
  clear hq hs
  have hv := whole_small q s hs1 hq0 hq1
  rw [wrapIn (q * 10 ^ s) (by omega) (by omega), norm_ok _ s (by omega), Option.bind_some, normT_whole s q hv.1 (by omega)]
  dsimp only
  have hC := cmp_ok k (by omega) (q * 10 ^ s) q s 0 (by omega) (by omega) (by omega) (by omega) (by omega) (by omega)
  rw [cmpI_eq (by rw [same_much q 0 s s (by omega) (by omega)])] at hC
  have hC' : dec_Cmp.f k (q * 10 ^ s) (s : Int) q 0 = some 0 := hC
  rw [if_pos rfl, if_pos rfl, hC', Option.bind_some, if_pos rfl]
  by_cases h : (s : Int) > 0
  · rw [if_pos h]
  · rw [if_neg h]
    obtain rfl : s = 0 := by omega
    rw [show q * 10 ^ 0 = q by simp]
    have hT : ∃ r, dec_Text.f q 0 = some r := by
      unfold dec_Text.f
      rw [if_pos (by omega)]
      exact ⟨_, rfl⟩
    obtain ⟨r, hr⟩ := hT
    have hr' : dec_Text.f q ((0 : Nat) : Int) = some r := hr
    rw [hr', hr, Option.bind_some, Option.bind_some]
    simp
end Go.Proofs.YtjbihflpjkaifaaDoor.Pure
