/- DecSigns holds for every input: with the other sign all is as before, but the sign. No condition. -/
import Derived.Test.YtjbihflpjkaifaaDoorPlain2a
import Derived.Test.YtjbihflpjkaifaaDoorPlain2t
import Derived.Test.YtjbihflpjkaifaaDoorPureDecScales
import Derived.Test.YtjbihflpjkaifaaDoorPureDecTexts
import Derived.Test.YtjbihflpjkaifaaDoorGx15
namespace Go.Proofs.YtjbihflpjkaifaaDoor.Pure
open Go.RowKit Go.Proofs.YtjbihflpjkaifaaDoor.G Go.Proofs.YtjbihflpjkaifaaDoorW.PrintWords Go.Proofs.YtjbihflpjkaifaaDoorW.PrintLast Go.Proofs.YtjbihflpjkaifaaDoorW.PrintMore Go.Proofs.YtjbihflpjkaifaaDoor.Plain
set_option linter.unusedVariables false
set_option linter.unusedSimpArgs false
theorem normT_neg : ∀ (s : Nat) (m : Int), -9223372036854775807 ≤ m → m ≤ 9223372036854775807 → normT s (-m) = (-(normT s m).1, (normT s m).2)
  | 0, m, _, _ => rfl
  | s + 1, m, h0, h1 => by
    rw [normT, normT, Int.neg_tmod, Int.neg_tdiv]
    by_cases hz : Int.tmod m 10 = 0
    · rw [if_pos (by omega), if_pos hz]
      obtain ⟨q, r, e1, e2, e3, e4, e5, e6, e7⟩ := tsplit m 10 (by decide)
      rw [e1, wrapIn (-q) (by omega) (by omega), wrapIn q (by omega) (by omega)]
      exact normT_neg s q (by omega) (by omega)
    · rw [if_neg (by omega), if_neg hz]
theorem mx_neg (b : Int) : mx (-b) (- -b) = mx b (-b) := by
  unfold mx
  repeat' split
  all_goals omega
theorem scaled_neg (b : Int) (t k : Nat) : scaled (-b) t k = (-(scaled b t k).1, (scaled b t k).2) := by
  unfold scaled
  rw [mx_neg]
  by_cases h1 : b = 0
  · rw [if_pos (by omega), if_pos h1]
    rfl
  · rw [if_neg (by omega), if_neg h1]
    by_cases h2 : k < t
    · rw [if_pos h2, if_pos h2]
      rfl
    · rw [if_neg h2, if_neg h2]
      by_cases h3 : Int.tdiv 999999999999999999 (10 ^ (k - t)) < mx b (-b)
      · rw [if_pos h3, if_pos h3]
        rfl
      · rw [if_neg h3, if_neg h3, Int.neg_mul]
theorem scaled_one (b : Int) (t k : Nat) (hk : k ≤ 18) : -1000000000000000000 < (scaled b t k).1 ∧ (scaled b t k).1 < 1000000000000000000 := by
  unfold scaled
  by_cases h1 : b = 0
  · rw [if_pos h1]
    decide
  · rw [if_neg h1]
    by_cases h2 : k < t
    · rw [if_pos h2]
      decide
    · rw [if_neg h2]
      by_cases h3 : Int.tdiv 999999999999999999 (10 ^ (k - t)) < mx b (-b)
      · rw [if_pos h3]
        decide
      · rw [if_neg h3]
        exact scaled_in b (k - t) (by omega) h3
theorem txt_neg (u s : Nat) : txt [45] u s = 45 :: txt [] u s := by
  unfold txt
  split <;> simp
theorem DecSigns : interlocutorlaw2_DecSigns.Pure := by
  intro a0 a1 a2 w0 w1 w2
  have g0 := i64_of_wf w0
  have g1 := i64_of_wf w1
  obtain ⟨k, hk⟩ : ∃ k : Nat, k = 100 := ⟨_, rfl⟩
  refine ⟨k, ?_⟩
  obtain ⟨m, s, hM, hs, hm0, hm1⟩ := make_ok k (by omega) a0 a1 g0.1 g0.2 g1.1 g1.2
  obtain ⟨b, t, j, e1, e2, e3, e4⟩ := normT_spec s m (by omega) (by omega)
  have hb := norm_small b m j e3 999999999999999999 (by omega) (by omega) (by decide)
  have e1n : normT s (-m) = (-b, (t : Int)) := by
    rw [normT_neg s m (by omega) (by omega), e1]
  have hW := within_ok a2 19 (by decide) (by decide)
  obtain ⟨d, hd, hd2⟩ : ∃ d : Nat, a2 % 19 = (d : Int) ∧ d ≤ 18 := ⟨(a2 % 19).toNat, by omega, by omega⟩
  rw [hd] at hW
  clear hd
  have hq : ∀ s ≤ 18, -9223372036854775808 ≤ Int.tdiv 999999999999999999 ((10 : Int) ^ s) ∧ Int.tdiv 999999999999999999 ((10 : Int) ^ s) ≤ 9223372036854775807 := fun s hs => by
    have h := quot_all ⟨s, by omega⟩
    simp only at h
    omega
  have hin : ∀ b, ¬ Int.tdiv 999999999999999999 (10 ^ (d - t)) < mx b (-b) → -9223372036854775808 ≤ b * 10 ^ (d - t) ∧ b * 10 ^ (d - t) ≤ 9223372036854775807 := fun b h => by
    have h1 := scaled_in b (d - t) (by omega) h
    omega
  have hS := dscaled_ok k (by omega) m s d hs hd2 b t e1 (by omega) (by omega) (by omega) (hin b) hq
  have hSn := dscaled_ok k (by omega) (-m) s d hs hd2 (-b) t e1n (by omega) (by omega) (by omega) (hin (-b)) hq
  rw [scaled_neg] at hSn
  have hz := scaled_one b t d hd2
  have hT := text_ok m s hs hm0 hm1
  have hTn := text_ok (-m) s hs (by omega) (by omega)
  rw [Int.natAbs_neg] at hTn
  unfold interlocutorlaw2_DecSigns.f
  rw [known_ok k (by omega), Option.bind_some, if_pos rfl, hM, Option.bind_some]
  dsimp only
  rw [wrapIn (-m) (by omega) (by omega), norm_ok m s hs, norm_ok (-m) s hs, e1, e1n, Option.bind_some, Option.bind_some, hW, Option.bind_some, hS, Option.bind_some, Option.bind_some, hSn, Option.bind_some, hT, hTn, Option.bind_some, Option.bind_some]
  dsimp only
  rw [wrapIn (-b) (by omega) (by omega), wrapIn (-(scaled b t d).1) (by omega) (by omega)]
  clear hS hSn hT hTn hW hM
  by_cases h : m < 0
  · have s1 : sgn m = [45] := if_pos h
    have s2 : sgn (-m) = [] := if_neg (by omega)
    rw [if_pos h, if_pos rfl, if_pos rfl, if_pos (by simp), if_pos rfl, if_neg (by omega), s1, s2, if_pos]
    · congr 1
      rw [beq_iff_eq]
      congr 1
      refine ext_ ?_
      rw [data_append, txt_neg]
      rfl
    · have hl := txt_size [] (by decide) m.natAbs s (by omega) hs
      show 1 + (txt [] m.natAbs s).toArray.size ≤ _
      rw [List.size_toArray]
      omega
  · rw [if_neg h, if_pos rfl, if_pos rfl, if_pos (by simp), if_pos rfl]
    by_cases h0 : m = 0
    · subst h0
      rw [if_pos rfl, if_pos]
      rfl
    · have s1 : sgn m = [] := if_neg h
      have s2 : sgn (-m) = [45] := if_pos (by omega)
      rw [if_neg h0, s1, s2, if_pos]
      · congr 1
        rw [beq_iff_eq]
        congr 1
        refine ext_ ?_
        rw [data_append, txt_neg]
        rfl
      · have hl := txt_size [] (by decide) m.natAbs s (by omega) hs
        show 1 + (txt [] m.natAbs s).toArray.size ≤ _
        rw [List.size_toArray]
        omega
end Go.Proofs.YtjbihflpjkaifaaDoor.Pure
