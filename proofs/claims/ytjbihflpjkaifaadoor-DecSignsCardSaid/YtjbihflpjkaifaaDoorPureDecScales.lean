/- DecScales holds for every input: any decimal in so many digits is the document's number, or none. No condition. -/
import Derived.Test.YtjbihflpjkaifaaDoorPlain2a
import Derived.Test.YtjbihflpjkaifaaDoorGx9
namespace Go.Proofs.YtjbihflpjkaifaaDoor.Pure
open Go.RowKit Go.Proofs.YtjbihflpjkaifaaDoor.G Go.Proofs.YtjbihflpjkaifaaDoorW.PrintWords Go.Proofs.YtjbihflpjkaifaaDoorW.PrintLast Go.Proofs.YtjbihflpjkaifaaDoorW.PrintMore Go.Proofs.YtjbihflpjkaifaaDoor.Plain
set_option linter.unusedVariables false
set_option linter.unusedSimpArgs false
/-- A normed decimal in so many digits. -/
def scaled (b : Int) (t k : Nat) : Int × Bool := if b = 0 then (0, true) else if k < t then (0, false) else if Int.tdiv 999999999999999999 (10 ^ (k - t)) < mx b (-b) then (0, false) else (b * 10 ^ (k - t), true)
theorem dscaled_ok (kk : Nat) (hk : 30 ≤ kk) (m : Int) (s k : Nat) (hs : s ≤ 18) (hk2 : k ≤ 18) (b : Int) (t : Nat) (hn : normT s m = (b, (t : Int))) (ht : t ≤ 18) (b0 : -1000000000000000000 < b) (b1 : b < 1000000000000000000)
    (hw : ¬ Int.tdiv 999999999999999999 (10 ^ (k - t)) < mx b (-b) → -9223372036854775808 ≤ b * 10 ^ (k - t) ∧ b * 10 ^ (k - t) ≤ 9223372036854775807) (hq : ∀ s ≤ 18, -9223372036854775808 ≤ Int.tdiv 999999999999999999 ((10 : Int) ^ s) ∧ Int.tdiv 999999999999999999 ((10 : Int) ^ s) ≤ 9223372036854775807) :
    dec_Scaled.f kk m (s : Int) (k : Int) = some (scaled b t k) := by
  have hp := pow_pos' (k - t)
  have hq1 := hq (k - t) (by omega)
  unfold dec_Scaled.f scaled
  rw [norm_ok m s hs, Option.bind_some, hn]
  dsimp only
  by_cases h1 : b = 0
  · rw [if_pos h1, if_pos h1]
  · rw [if_neg h1, if_neg h1]
    by_cases h2 : k < t
    · rw [if_pos (by omega), if_pos h2]
    · have e : wrap64 ((k : Int) - (t : Int)) = ((k - t : Nat) : Int) := by rw [wrapIn _ (by omega) (by omega)]; omega
      rw [if_neg (by omega), if_neg h2, e]
      clear e
      rw [if_neg (by omega), bound_ok kk hk, Option.bind_some, ten_ok kk (k - t) hk (by omega), Option.bind_some, if_neg (by omega), show wrap64 ((1000000000000000000 : Int) - 1) = 999999999999999999 from by decide +kernel, wrapIn (-b) (by omega) (by omega), wrapIn _ hq1.1 hq1.2]
      by_cases h3 : Int.tdiv 999999999999999999 (10 ^ (k - t)) < mx b (-b)
      · rw [if_pos h3, if_pos h3]
      · rw [if_neg h3, if_neg h3, Option.bind_some, wrapIn _ (hw h3).1 (hw h3).2]
theorem rscaled_ok (kk : Nat) (hk : 30 ≤ kk) (m : Int) (s k : Nat) (hs : s ≤ 18) (hk2 : k ≤ 18) (b : Int) (t : Nat) (hn : normT s m = (b, (t : Int))) (ht : t ≤ 18) (h0 : b = 0 → t = 0) (b0 : -1000000000000000000 < b) (b1 : b < 1000000000000000000)
    (hw : ¬ Int.tdiv 999999999999999999 (10 ^ (k - t)) < mx b (-b) → -9223372036854775808 ≤ b * 10 ^ (k - t) ∧ b * 10 ^ (k - t) ≤ 9223372036854775807) (hq : ∀ s ≤ 18, 0 ≤ Int.tdiv 999999999999999999 ((10 : Int) ^ s) ∧ Int.tdiv 999999999999999999 ((10 : Int) ^ s) ≤ 9223372036854775807) :
    interlocutorref2_Scaled.f kk m (s : Int) (k : Int) = some (scaled b t k) := by
  have hp := pow_pos' (k - t)
  have hq1 := hq (k - t) (by omega)
  have hR : interlocutorref2_Norm.f kk m (s : Int) = some (normT s m) := rnorm_ok s m kk hs (by omega)
  unfold interlocutorref2_Scaled.f scaled
  rw [hR, Option.bind_some, hn]
  dsimp only
  by_cases h2 : k < t
  · rw [if_pos (by omega)]
    rw [if_neg (by intro h; have := h0 h; omega), if_pos h2]
  · have e : wrap64 ((k : Int) - (t : Int)) = ((k - t : Nat) : Int) := by rw [wrapIn _ (by omega) (by omega)]; omega
    rw [if_neg (by omega), e, if_neg h2]
    clear e
    rw [rten_ok kk (k - t) hk (by omega), Option.bind_some, if_neg (by omega), wrapIn (-b) (by omega) (by omega), wrapIn _ (by omega) hq1.2]
    by_cases h1 : b = 0
    · subst h1
      rw [if_neg (by rw [show mx 0 (-0) = 0 from rfl]; omega), if_pos rfl, Int.zero_mul, wrapIn 0 (by decide) (by decide)]
    · rw [if_neg h1]
      by_cases h3 : Int.tdiv 999999999999999999 (10 ^ (k - t)) < mx b (-b)
      · rw [if_pos h3, if_pos h3]
      · rw [if_neg h3, if_neg h3, wrapIn _ (hw h3).1 (hw h3).2]
theorem quot_all : ∀ s : Fin 19, 0 ≤ Int.tdiv 999999999999999999 ((10 : Int) ^ s.val) ∧ Int.tdiv 999999999999999999 ((10 : Int) ^ s.val) ≤ 999999999999999999 ∧ Int.tdiv 999999999999999999 ((10 : Int) ^ s.val) * 10 ^ s.val < 1000000000000000000 := by decide +kernel
theorem scaled_in (b : Int) (d : Nat) (hd : d ≤ 18) (h : ¬ Int.tdiv 999999999999999999 (10 ^ d) < mx b (-b)) : -1000000000000000000 < b * 10 ^ d ∧ b * 10 ^ d < 1000000000000000000 := by
  have h1 := quot_all ⟨d, by omega⟩
  have hp := pow_pos' d
  simp only at h1
  generalize Int.tdiv 999999999999999999 (10 ^ d) = q at *
  generalize (10 : Int) ^ d = P at *
  have hb : b ≤ q ∧ -b ≤ q := by
    unfold mx at h
    split at h <;> omega
  have m1 : b * P ≤ q * P := Int.mul_le_mul_of_nonneg_right hb.1 (by omega)
  have m2 : -b * P ≤ q * P := Int.mul_le_mul_of_nonneg_right hb.2 (by omega)
  rw [Int.neg_mul] at m2
  omega
theorem norm_zero (b m : Int) (t j s : Nat) (e2 : t + j = s) (e4 : t = 0 ∨ Int.tmod b 10 ≠ 0) (h : b = 0) : t = 0 := by
  rcases e4 with h4 | h4
  · exact h4
  · subst h
    exact absurd rfl h4
theorem DecScales : interlocutorlaw2_DecScales.Pure := by
  intro a0 a1 a2 w0 w1 w2
  have g0 := i64_of_wf w0
  have g1 := i64_of_wf w1
  obtain ⟨k, hk⟩ : ∃ k : Nat, k = 100 := ⟨_, rfl⟩
  refine ⟨k, ?_⟩
  obtain ⟨m, s, hM, hs, hm0, hm1⟩ := make_ok k (by omega) a0 a1 g0.1 g0.2 g1.1 g1.2
  obtain ⟨b, t, j, e1, e2, e3, e4⟩ := normT_spec s m (by omega) (by omega)
  have hb := norm_small b m j e3 999999999999999999 (by omega) (by omega) (by decide)
  have hW := within_ok a2 19 (by decide) (by decide)
  obtain ⟨d, hd, hd2⟩ : ∃ d : Nat, a2 % 19 = (d : Int) ∧ d ≤ 18 := ⟨(a2 % 19).toNat, by omega, by omega⟩
  rw [hd] at hW
  have hin : ¬ Int.tdiv 999999999999999999 (10 ^ (d - t)) < mx b (-b) → -9223372036854775808 ≤ b * 10 ^ (d - t) ∧ b * 10 ^ (d - t) ≤ 9223372036854775807 := fun h => by
    have h1 := scaled_in b (d - t) (by omega) h
    omega
  have hS := dscaled_ok k (by omega) m s d hs hd2 b t e1 (by omega) (by omega) (by omega) hin (fun s hs => by have h := quot_all ⟨s, by omega⟩; simp only at h; omega)
  have hR := rscaled_ok k (by omega) m s d hs hd2 b t e1 (by omega) (norm_zero b m t j s e2 e4) (by omega) (by omega) hin (fun s hs => by have h := quot_all ⟨s, by omega⟩; simp only at h; omega)
  clear hd
  unfold interlocutorlaw2_DecScales.f
  rw [known_ok k (by omega), Option.bind_some, if_pos rfl, hM, Option.bind_some]
  dsimp only
  rw [hW, Option.bind_some, hS, Option.bind_some, hR, Option.bind_some, if_pos rfl, if_pos (by simp)]
  clear hS hR hM hW
  unfold scaled
  by_cases h1 : b = 0
  · rw [if_pos h1, if_pos rfl]
    dsimp only
    rw [cmp_ok k (by omega) 0 m d s hd2 hs (by omega) (by omega) (by omega) (by omega), Option.bind_some, e3, h1, Int.zero_mul, Int.zero_mul, Int.zero_mul, cmpI_eq rfl]
    rfl
  · rw [if_neg h1]
    by_cases h2 : d < t
    · rw [if_pos h2]
      rfl
    · rw [if_neg h2]
      by_cases h3 : Int.tdiv 999999999999999999 (10 ^ (d - t)) < mx b (-b)
      · rw [if_pos h3]
        rfl
      · have hv := hin h3
        rw [if_neg h3, if_pos rfl]
        dsimp only
        rw [cmp_ok k (by omega) _ m d s hd2 hs hv.1 hv.2 (by omega) (by omega), Option.bind_some, same_much b t (d - t) d (by omega) hd2, ← same_much b t j s e2 hs, ← e3, cmpI_eq rfl]
        rfl
end Go.Proofs.YtjbihflpjkaifaaDoor.Pure
