/- Plain facts: the norm, the made decimals, the known example. -/
import Derived.Test.YtjbihflpjkaifaaDoorPlain2
namespace Go.Proofs.YtjbihflpjkaifaaDoor.Plain
open Go.RowKit Go.Proofs.YtjbihflpjkaifaaDoor.G Go.Proofs.YtjbihflpjkaifaaDoorW.PrintWords Go.Proofs.YtjbihflpjkaifaaDoorW.PrintLast Go.Proofs.YtjbihflpjkaifaaDoorW.PrintMore
set_option linter.unusedVariables false
set_option linter.unusedSimpArgs false
theorem dec5 : Lib.decDigits 5 = [53] := by rw [Lib.decDigits_one (by decide)]; rfl
theorem text5 : dec_Text.f (-5) 2 = some ⟨#[45, 48, 46, 48, 53]⟩ := by
  unfold dec_Text.f
  have e : Lib.itoa (-5) = [45, 53] := by unfold Lib.itoa; rw [if_pos (by decide), show (-5 : Int).natAbs = 5 from rfl, dec5]
  rw [e]
  decide +kernel
theorem known_ok (k : Nat) (hk : 40 ≤ k) : interlocutorlaw2_known.f k = some true := by
  refine at_rounds (fun k => interlocutorlaw2_known.mono k) hk ?_
  unfold interlocutorlaw2_known.f
  rw [text5]
  decide +kernel
theorem make_ok (k : Nat) (hk : 1 ≤ k) (a b : Int) (h0 : -9223372036854775808 ≤ a) (h1 : a ≤ 9223372036854775807) (g0 : -9223372036854775808 ≤ b) (g1 : b ≤ 9223372036854775807) :
    ∃ (m : Int) (s : Nat), interlocutorlaw2_Make.f k a b = some (m, (s : Int)) ∧ s ≤ 18 ∧ -1000000000000000000 < m ∧ m < 1000000000000000000 := by
  obtain ⟨k, rfl⟩ : ∃ j, k = j + 1 := ⟨k - 1, by omega⟩
  have hj : ∀ (x : Int), -1000000000000000000 < x → x < 1000000000000000000 → ∃ (m : Int) (s : Nat), interlocutorlaw2_Make.j0 (k + 1) b x = some (m, (s : Int)) ∧ s ≤ 18 ∧ -1000000000000000000 < m ∧ m < 1000000000000000000 := by
    intro x hx0 hx1
    rw [interlocutorlaw2_Make.j0, within_ok b 11 (by decide) (by decide), Option.bind_some]
    have hw := within_ok (wrap64 (Int.tdiv b 7)) 19 (by decide) (by decide)
    have hs : ∃ s : Nat, (wrap64 (Int.tdiv b 7)) % 19 = (s : Int) ∧ s ≤ 18 := by
      generalize wrap64 (Int.tdiv b 7) = z
      exact ⟨(z % 19).toNat, by omega, by omega⟩
    obtain ⟨s, hs, hs2⟩ := hs
    rw [hw, hs]
    obtain ⟨q, r, e1, e2, e3, e4, e5, e6, e7⟩ := tsplit x 1000000 (by decide)
    by_cases hc : b % 11 = 0
    · rw [if_pos hc, Option.bind_some, e1]
      have hq : wrap64 q = q := wrapIn _ (by omega) (by omega)
      have hq2 : wrap64 (q * 1000000) = q * 1000000 := wrapIn _ (by omega) (by omega)
      rw [hq, hq2]
      exact ⟨_, s, rfl, hs2, by omega, by omega⟩
    · rw [if_neg hc, Option.bind_some]
      exact ⟨_, s, rfl, hs2, hx0, hx1⟩
  unfold interlocutorlaw2_Make.f
  rw [within_ok b 7 (by decide) (by decide), Option.bind_some]
  by_cases hc : b % 7 = 0
  · rw [if_pos hc, within_ok a 2000 (by decide) (by decide), Option.bind_some]
    have hq : wrap64 (a % 2000 - 1000) = a % 2000 - 1000 := wrapIn _ (by omega) (by omega)
    rw [hq]
    exact hj _ (by omega) (by omega)
  · rw [if_neg hc]
    obtain ⟨q, r, e1, e2, e3, e4, e5, e6, e7⟩ := tsplit a 1000000000000000000 (by decide)
    rw [e2]
    exact hj _ e4 e5
theorem tdiv10 (m : Int) (h0 : -9223372036854775808 ≤ m) (h1 : m ≤ 9223372036854775807) (hz : Int.tmod m 10 = 0) : ∃ q, wrap64 (Int.tdiv m 10) = q ∧ m = 10 * q := by
  obtain ⟨q, r, e1, e2, e3, e4, e5, e6, e7⟩ := tsplit m 10 (by decide)
  rw [e1, wrapIn _ (by omega) (by omega)]
  exact ⟨q, rfl, by omega⟩
/-- A norm: as much, and as short as can be. -/
theorem normT_spec : ∀ (s : Nat) (m : Int), -9223372036854775808 ≤ m → m ≤ 9223372036854775807 → ∃ (b : Int) (t j : Nat), normT s m = (b, (t : Int)) ∧ t + j = s ∧ m = b * 10 ^ j ∧ (t = 0 ∨ Int.tmod b 10 ≠ 0)
  | 0, m, _, _ => ⟨m, 0, 0, rfl, rfl, by simp, .inl rfl⟩
  | s + 1, m, h0, h1 => by
    rw [normT]
    by_cases hz : Int.tmod m 10 = 0
    · rw [if_pos hz]
      obtain ⟨q, e, hq⟩ := tdiv10 m h0 h1 hz
      rw [e]
      obtain ⟨b, t, j, e1, e2, e3, e4⟩ := normT_spec s q (by omega) (by omega)
      exact ⟨b, t, j + 1, e1, by omega, by rw [hq, e3, Int.pow_succ]; rw [Int.mul_comm 10, Int.mul_assoc], e4⟩
    · rw [if_neg hz]
      exact ⟨m, s + 1, 0, by simp, rfl, by simp, .inr hz⟩
theorem norm_ok (m : Int) (s : Nat) (hs : s ≤ 18) : dec_Norm.f m (s : Int) = some (normT s m) := by
  unfold dec_Norm.f
  rw [if_pos (by omega)]
  by_cases h : 0 < (s : Int)
  · rw [if_pos h]
    rfl
  · rw [if_neg h]
    obtain rfl : s = 0 := by omega
    rfl
theorem rnorm_ok : ∀ (s : Nat) (m : Int) (k : Nat), s ≤ 18 → s < k → interlocutorref2_Norm.l0 k m (s : Int) = some (normT s m)
  | 0, m, k, _, hk => by
    obtain ⟨k, rfl⟩ : ∃ j, k = j + 1 := ⟨k - 1, by omega⟩
    rw [interlocutorref2_Norm.l0, if_neg (by omega)]
    rfl
  | s + 1, m, k, hs, hk => by
    obtain ⟨k, rfl⟩ : ∃ j, k = j + 1 := ⟨k - 1, by omega⟩
    rw [interlocutorref2_Norm.l0, if_pos (by omega), normT]
    by_cases hz : Int.tmod m 10 = 0
    · rw [if_pos hz, if_pos hz, show wrap64 (((s + 1 : Nat) : Int) - 1) = (s : Int) from by rw [wrapIn _ (by omega) (by omega)]; omega]
      exact rnorm_ok s _ k (by omega) (by omega)
    · rw [if_neg hz, if_neg hz]
      rfl
theorem cmpI_eq {x y : Int} (h : x = y) : cmpI x y = 0 := by
  unfold cmpI
  rw [if_neg (by omega), if_neg (by omega)]
theorem cmpI_lt {x y : Int} (h : x < y) : cmpI x y = -1 := by
  unfold cmpI
  rw [if_pos h]
theorem cmpI_gt {x y : Int} (h : y < x) : cmpI x y = 1 := by
  unfold cmpI
  rw [if_neg (by omega), if_pos h]
/-- As much in other scales. -/
theorem same_much (b : Int) (t j s : Nat) (h : t + j = s) (hs : s ≤ 18) : b * 10 ^ j * 10 ^ (18 - s) = b * 10 ^ (18 - t) := by
  rw [Int.mul_assoc, ← Int.pow_add]
  congr 2
  omega
theorem norm_small (b m : Int) (j : Nat) (h : m = b * 10 ^ j) (B : Int) (h0 : -B ≤ m) (h1 : m ≤ B) (hB : 0 ≤ B) : -B ≤ b ∧ b ≤ B := by
  have hp := pow_pos' j
  generalize (10 : Int) ^ j = P at *
  rcases Int.lt_or_le b 0 with hb | hb
  · have : b * P ≤ b * 1 := Int.mul_le_mul_of_nonpos_left (by omega) (by omega)
    omega
  · have : b * 1 ≤ b * P := Int.mul_le_mul_of_nonneg_left (by omega) hb
    omega
end Go.Proofs.YtjbihflpjkaifaaDoor.Plain
