/- DecMore holds for every input: a decimal and one that is more by a step are in that order, in any scales that hold them. No condition. -/
import Derived.Test.YtjbihflpjkaifaaDoorPlain2a
import Derived.Test.YtjbihflpjkaifaaDoorGx16
namespace Go.Proofs.YtjbihflpjkaifaaDoor.Pure
open Go.RowKit Go.Proofs.YtjbihflpjkaifaaDoor.G Go.Proofs.YtjbihflpjkaifaaDoorW.PrintWords Go.Proofs.YtjbihflpjkaifaaDoorW.PrintLast Go.Proofs.YtjbihflpjkaifaaDoorW.PrintMore Go.Proofs.YtjbihflpjkaifaaDoor.Plain
set_option linter.unusedVariables false
set_option linter.unusedSimpArgs false
theorem pow7 : ∀ s : Fin 8, (10 : Int) ^ s.val ≤ 10000000 := by decide +kernel
theorem more_pow (s j : Nat) (hs : s + j ≤ 18) : (10 : Int) ^ (18 - s) = 10 ^ j * 10 ^ (18 - (s + j)) := by
  rw [← Int.pow_add]
  congr 1
  omega
theorem more_mul (z P : Int) (h0 : -1073741824 ≤ z) (h1 : z ≤ 1073741824) (p0 : 0 < P) (p1 : P ≤ 10000000) : -9223372036854775808 ≤ z * P ∧ z * P ≤ 9223372036854775807 := by
  rcases Int.lt_or_le z 0 with h | h
  · have : z * 10000000 ≤ z * P := Int.mul_le_mul_of_nonpos_left (by omega) (by omega)
    have : z * P ≤ z * 1 := Int.mul_le_mul_of_nonpos_left (by omega) (by omega)
    omega
  · have : z * P ≤ z * 10000000 := Int.mul_le_mul_of_nonneg_left (by omega) h
    have : z * 1 ≤ z * P := Int.mul_le_mul_of_nonneg_left (by omega) h
    omega
theorem more_small (z : Int) (j : Nat) (h0 : -1073741824 ≤ z) (h1 : z ≤ 1073741824) (hj : j ≤ 7) : -9223372036854775808 ≤ z * 10 ^ j ∧ z * 10 ^ j ≤ 9223372036854775807 :=
  more_mul z (10 ^ j) h0 h1 (pow_pos' j) (pow7 ⟨j, by omega⟩)
theorem DecMore : interlocutorlaw2_DecMore.Pure := by
  intro a0 a1 a2 a3 w0 w1 w2 w3
  obtain ⟨k, hk⟩ : ∃ k : Nat, k = 100 := ⟨_, rfl⟩
  refine ⟨k, ?_⟩
  unfold interlocutorlaw2_DecMore.f
  rw [known_ok k (by omega), Option.bind_some, if_pos rfl, within_ok a0 1073741824 (by decide) (by decide), Option.bind_some, within_ok a1 1000 (by decide) (by decide), Option.bind_some, within_ok a2 8 (by decide) (by decide), Option.bind_some, within_ok a3 8 (by decide) (by decide), Option.bind_some]
  obtain ⟨x, hx, hx0, hx1⟩ : ∃ x, a0 % 1073741824 = x ∧ 0 ≤ x ∧ x < 1073741824 := ⟨_, rfl, by omega, by omega⟩
  obtain ⟨n, hn, hn0, hn1⟩ : ∃ x, a1 % 1000 = x ∧ 0 ≤ x ∧ x < 1000 := ⟨_, rfl, by omega, by omega⟩
  obtain ⟨s, hs, hs1⟩ : ∃ s : Nat, a2 % 8 = (s : Int) ∧ s ≤ 7 := ⟨(a2 % 8).toNat, by omega, by omega⟩
  obtain ⟨j, hj, hj1⟩ : ∃ s : Nat, a3 % 8 = (s : Int) ∧ s ≤ 7 := ⟨(a3 % 8).toNat, by omega, by omega⟩
  rw [hx, hn, hs, hj, rten_ok k j (by omega) (by omega), Option.bind_some]
  rw [wrapIn (x - 536870912) (by omega) (by omega), wrapIn (1 + n) (by omega) (by omega)]
  generalize hy : x - 536870912 = y
  have hy0 : -536870912 ≤ y := by omega
  have hy1 : y < 536870912 := by omega
  clear hs hx hy hj hn
  rw [wrapIn (y + (1 + n)) (by omega) (by omega), wrapIn ((s : Int) + (j : Int)) (by omega) (by omega), show (s : Int) + (j : Int) = ((s + j : Nat) : Int) from rfl]
  obtain ⟨b0, b1⟩ := more_small (y + (1 + n)) j (by omega) (by omega) (by omega)
  rw [wrapIn ((y + (1 + n)) * 10 ^ j) b0 b1, cmp_ok k (by omega) y _ s (s + j) (by omega) (by omega) (by omega) (by omega) b0 b1, cmp_ok k (by omega) _ y (s + j) s (by omega) (by omega) b0 b1 (by omega) (by omega), more_pow s j (by omega), Int.mul_assoc]
  have hR : (0 : Int) < 10 ^ j * 10 ^ (18 - (s + j)) := Int.mul_pos (pow_pos' j) (pow_pos' _)
  have d1 : y * (10 ^ j * 10 ^ (18 - (s + j))) < (y + (1 + n)) * (10 ^ j * 10 ^ (18 - (s + j))) := Int.mul_lt_mul_of_pos_right (by omega) hR
  rw [cmpI_lt d1, cmpI_gt d1]
  rfl
end Go.Proofs.YtjbihflpjkaifaaDoor.Pure
