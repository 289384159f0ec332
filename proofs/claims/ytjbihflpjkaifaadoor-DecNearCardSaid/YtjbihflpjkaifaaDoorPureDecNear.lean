/- DecNear holds for every input: decimals that differ in the last digit alone are apart; by one digit more behind, noughts, they are one. No condition. -/
import Derived.Test.YtjbihflpjkaifaaDoorPlain2a
import Derived.Test.YtjbihflpjkaifaaDoorGx13
namespace Go.Proofs.YtjbihflpjkaifaaDoor.Pure
open Go.RowKit Go.Proofs.YtjbihflpjkaifaaDoor.G Go.Proofs.YtjbihflpjkaifaaDoorW.PrintWords Go.Proofs.YtjbihflpjkaifaaDoorW.PrintLast Go.Proofs.YtjbihflpjkaifaaDoorW.PrintMore Go.Proofs.YtjbihflpjkaifaaDoor.Plain
set_option linter.unusedVariables false
set_option linter.unusedSimpArgs false
theorem near_pow (s : Nat) (hs : s ≤ 15) : (10 : Int) ^ (18 - s) = 10 ^ (18 - (s + 1)) * 10 := by
  rw [← Int.pow_succ]
  congr 1
  omega
theorem near_law (y P : Int) (hp : 0 < P) : y * (P * 10) < (y + 1) * (P * 10) ∧ 10 * y * P = y * (P * 10) ∧ y * (P * 10) < (10 * y + 1) * P := by
  have d2 : 10 * y * P = y * (P * 10) := by rw [Int.mul_comm 10 y, Int.mul_assoc, Int.mul_comm 10 P]
  refine ⟨?_, d2, ?_⟩
  · rw [Int.add_mul]
    omega
  · rw [Int.add_mul, d2]
    omega
theorem DecNear : interlocutorlaw2_DecNear.Pure := by
  intro a0 a1 w0 w1
  have g0 := i64_of_wf w0
  have g1 := i64_of_wf w1
  obtain ⟨k, hk⟩ : ∃ k : Nat, k = 100 := ⟨_, rfl⟩
  refine ⟨k, ?_⟩
  unfold interlocutorlaw2_DecNear.f
  rw [known_ok k (by omega), Option.bind_some, if_pos rfl, within_ok a0 1125899906842624 (by decide) (by decide), Option.bind_some, within_ok a1 16 (by decide) (by decide), Option.bind_some]
  obtain ⟨x, hx, hx0, hx1⟩ : ∃ x, a0 % 1125899906842624 = x ∧ 0 ≤ x ∧ x < 1125899906842624 := ⟨_, rfl, by omega, by omega⟩
  obtain ⟨s, hs, hs1⟩ : ∃ s : Nat, a1 % 16 = (s : Int) ∧ s ≤ 15 := ⟨(a1 % 16).toNat, by omega, by omega⟩
  rw [hx, hs]
  rw [wrapIn (x - 562949953421312) (by omega) (by omega)]
  generalize hy : x - 562949953421312 = y
  have hy0 : -562949953421312 ≤ y := by omega
  have hy1 : y < 562949953421312 := by omega
  clear hs hx hy
  rw [wrapIn (y + 1) (by omega) (by omega), wrapIn (10 * y) (by omega) (by omega), wrapIn (10 * y + 1) (by omega) (by omega), wrapIn ((s : Int) + 1) (by omega) (by omega), show (s : Int) + 1 = ((s + 1 : Nat) : Int) from rfl]
  rw [cmp_ok k (by omega) y (y + 1) s s (by omega) (by omega) (by omega) (by omega) (by omega) (by omega), cmp_ok k (by omega) (y + 1) y s s (by omega) (by omega) (by omega) (by omega) (by omega) (by omega),
    cmp_ok k (by omega) (10 * y) y (s + 1) s (by omega) (by omega) (by omega) (by omega) (by omega) (by omega), cmp_ok k (by omega) (10 * y + 1) y (s + 1) s (by omega) (by omega) (by omega) (by omega) (by omega) (by omega), near_pow s hs1]
  obtain ⟨d1, d2, d3⟩ := near_law y (10 ^ (18 - (s + 1))) (pow_pos' _)
  rw [cmpI_lt d1, cmpI_gt d1, cmpI_eq d2, cmpI_gt d3]
  rfl
end Go.Proofs.YtjbihflpjkaifaaDoor.Pure
