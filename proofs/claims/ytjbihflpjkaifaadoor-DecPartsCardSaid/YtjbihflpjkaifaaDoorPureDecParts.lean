/- DecParts holds for every input: joined of its parts a decimal is what it was. No condition. -/
import Derived.Test.YtjbihflpjkaifaaDoorPlain2a
import Derived.Test.YtjbihflpjkaifaaDoorGx14
namespace Go.Proofs.YtjbihflpjkaifaaDoor.Pure
open Go.RowKit Go.Proofs.YtjbihflpjkaifaaDoor.G Go.Proofs.YtjbihflpjkaifaaDoorW.PrintWords Go.Proofs.YtjbihflpjkaifaaDoorW.PrintLast Go.Proofs.YtjbihflpjkaifaaDoorW.PrintMore Go.Proofs.YtjbihflpjkaifaaDoor.Plain
set_option linter.unusedVariables false
set_option linter.unusedSimpArgs false
theorem join_ok (k : Nat) (hk : 40 ≤ k) (m : Int) (s : Nat) (hs : s ≤ 18) (h0 : 0 ≤ m) (h1 : m < 1000000000000000000) :
    dec_Join.f k (wrap64 (Int.tdiv m (10 ^ s))) (Int.tmod m (10 ^ s)) (s : Int) = some ((normT s m).1, (normT s m).2, true) := by
  obtain ⟨k, rfl⟩ : ∃ j, k = j + 1 := ⟨k - 1, by omega⟩
  obtain ⟨q, r, e1, e2, e3, e4, e5, e6, e7⟩ := tsplit m (10 ^ s) (pow_pos' s)
  obtain ⟨hr, hq⟩ := e6 h0
  have hp := pow_pos' s
  have hle := pow_le' s hs
  have hsp := pow_split s hs
  have hq2 : q ≤ m := by
    have : 1 * q ≤ 10 ^ s * q := Int.mul_le_mul_of_nonneg_right (by omega) hq
    omega
  have hd : Int.tdiv (999999999999999999 - r) (10 ^ s) ≥ q ∧ Int.tdiv (999999999999999999 - r) (10 ^ s) ≤ 999999999999999999 := by
    obtain ⟨q', r', f1, f2, f3, f4, f5, f6, f7⟩ := tsplit (999999999999999999 - r) (10 ^ s) (pow_pos' s)
    obtain ⟨hr', hq'⟩ := f6 (by omega)
    rw [f1]
    generalize (10 : Int) ^ s = P at *
    constructor
    · rcases Int.lt_or_le q' q with h | h
      · have : P * (q' + 1) ≤ P * q := Int.mul_le_mul_of_nonneg_left (by omega) (by omega)
        rw [Int.mul_add] at this
        omega
      · exact h
    · have : 1 * q' ≤ P * q' := Int.mul_le_mul_of_nonneg_right (by omega) hq'
      omega
  rw [e1, e2, wrapIn q (by omega) (by omega)]
  unfold dec_Join.f
  have hN := norm_ok m s hs
  have hT := ten_ok (k + 1) s (by omega) hs
  have hT' := ten_ok k s (by omega) hs
  have hB := bound_ok k (by omega)
  clear hsp
  rw [if_neg (by omega), if_neg (by omega), if_neg (by omega), if_neg (by omega), hT, Option.bind_some, decide_eq_false (by omega), dec_Join.j0, if_neg (by decide), hB, Option.bind_some, hT', Option.bind_some, if_neg (by omega)]
  rw [show wrap64 ((1000000000000000000 : Int) - 1) = 999999999999999999 from by decide +kernel, wrapIn (999999999999999999 - r) (by omega) (by omega), wrapIn (Int.tdiv _ _) (by omega) (by omega), if_neg (by omega), Option.bind_some]
  rw [show q * 10 ^ s = 10 ^ s * q from Int.mul_comm _ _, wrapIn (10 ^ s * q) (by omega) (by omega), ← e3, wrapIn m (by omega) (by omega), hN, Option.bind_some]
theorem DecParts : interlocutorlaw2_DecParts.Pure := by
  intro a0 a1 w0 w1
  have g0 := i64_of_wf w0
  have g1 := i64_of_wf w1
  obtain ⟨k, hk⟩ : ∃ k : Nat, k = 100 := ⟨_, rfl⟩
  refine ⟨k, ?_⟩
  obtain ⟨m, s, hM, hs, hm0, hm1⟩ := make_ok k (by omega) a0 a1 g0.1 g0.2 g1.1 g1.2
  unfold interlocutorlaw2_DecParts.f
  rw [known_ok k (by omega), Option.bind_some, if_pos rfl, hM, Option.bind_some]
  dsimp only
  have hp := pow_pos' s
  clear hM
  by_cases h : m < 0
  · rw [if_pos h, rten_ok k s (by omega) hs, Option.bind_some, if_neg (by omega), wrapIn (-m) (by omega) (by omega), join_ok k (by omega) (-m) s hs (by omega) (by omega), Option.bind_some, norm_ok (-m) s hs, Option.bind_some]
    simp
  · rw [if_neg h, rten_ok k s (by omega) hs, Option.bind_some, if_neg (by omega), join_ok k (by omega) m s hs (by omega) (by omega), Option.bind_some, norm_ok m s hs, Option.bind_some]
    simp
end Go.Proofs.YtjbihflpjkaifaaDoor.Pure
