/- Plain facts on the printed functions of dec and of its law's helpers: powers of ten, the order, the norm. -/
import Derived.Test.YtjbihflpjkaifaaDoorGx6
import Derived.Test.YtjbihflpjkaifaaDoorGx7
import Derived.Test.YtjbihflpjkaifaaDoorGx8
import Derived.Test.YtjbihflpjkaifaaDoorGx12
namespace Go.Proofs.YtjbihflpjkaifaaDoor.Plain
open Go.RowKit Go.Proofs.YtjbihflpjkaifaaDoor.G Go.Proofs.YtjbihflpjkaifaaDoorW.PrintWords Go.Proofs.YtjbihflpjkaifaaDoorW.PrintLast Go.Proofs.YtjbihflpjkaifaaDoorW.PrintMore
set_option linter.unusedVariables false
set_option linter.unusedSimpArgs false
theorem wrapIn (x : Int) (h0 : -9223372036854775808 ≤ x) (h1 : x ≤ 9223372036854775807) : wrap64 x = x := by
  unfold wrap64
  omega
theorem i64_of_wf {a : Int} (h : (Lit.int .i64 a).wf = true) : -9223372036854775808 ≤ a ∧ a ≤ 9223372036854775807 := by
  simp [Lit.wf, IntKind.min, IntKind.max, IntKind.signed, IntKind.bits] at h
  omega
theorem within_ok (a n : Int) (hn : 0 < n) (hn2 : n ≤ 4611686018427387904) : interlocutorlaw2_within.f a n = some (a % n) := by
  unfold interlocutorlaw2_within.f
  rw [if_neg (by omega)]
  have h1 := Int.emod_nonneg a (show n ≠ 0 by omega)
  have h2 := Int.emod_lt_of_pos a hn
  rw [Int.tmod_eq_emod]
  have hn3 : (n.natAbs : Int) = n := by omega
  split
  · rw [if_neg (by omega)]
    simp
  · rw [hn3, if_pos (by omega), wrapIn _ (by omega) (by omega)]
    congr 1
    omega
theorem tsplit (x B : Int) (hB : 0 < B) : ∃ q r, Int.tdiv x B = q ∧ Int.tmod x B = r ∧ x = B * q + r ∧ -B < r ∧ r < B ∧ (0 ≤ x → 0 ≤ r ∧ 0 ≤ q) ∧ (x ≤ 0 → r ≤ 0 ∧ q ≤ 0) := by
  refine ⟨_, _, rfl, rfl, (Int.mul_tdiv_add_tmod x B).symm, Int.lt_tmod_of_pos x hB, Int.tmod_lt_of_pos x hB, fun h => ⟨Int.tmod_nonneg B h, Int.tdiv_nonneg h (by omega)⟩, fun h => ?_⟩
  have h1 := Int.tmod_nonneg B (show 0 ≤ -x by omega)
  have h2 := Int.tdiv_nonneg (show 0 ≤ -x by omega) (show 0 ≤ B by omega)
  rw [Int.neg_tmod] at h1
  rw [Int.neg_tdiv] at h2
  omega
theorem ten_all : ∀ s : Fin 19, dec_ten.f 30 (s.val : Int) = some ((10 : Int) ^ s.val) := by decide +kernel
theorem ten_ok (k s : Nat) (hk : 30 ≤ k) (hs : s ≤ 18) : dec_ten.f k (s : Int) = some ((10 : Int) ^ s) := at_rounds (fun k => dec_ten.mono _ k) hk (ten_all ⟨s, by omega⟩)
theorem rten_all : ∀ s : Fin 19, interlocutorref2_Ten.f 30 (s.val : Int) = some ((10 : Int) ^ s.val) := by decide +kernel
theorem rten_ok (k s : Nat) (hk : 30 ≤ k) (hs : s ≤ 18) : interlocutorref2_Ten.f k (s : Int) = some ((10 : Int) ^ s) := at_rounds (fun k => interlocutorref2_Ten.mono _ k) hk (rten_all ⟨s, by omega⟩)
theorem bound_ok (k : Nat) (hk : 30 ≤ k) : dec_bound.f k = some 1000000000000000000 := by
  unfold dec_bound.f
  rw [show (18 : Int) = ((18 : Nat) : Int) from rfl, ten_ok k 18 hk (by omega), Option.bind_some]
  decide
theorem pow_pos' (s : Nat) : (0 : Int) < 10 ^ s := Int.pow_pos (by decide)
theorem pow_all : ∀ s : Fin 19, (10 : Int) ^ s.val * 10 ^ (18 - s.val) = 1000000000000000000 := by decide +kernel
theorem pow_split (s : Nat) (hs : s ≤ 18) : (10 : Int) ^ s * 10 ^ (18 - s) = 1000000000000000000 := pow_all ⟨s, by omega⟩
theorem pow_le' (s : Nat) (hs : s ≤ 18) : (10 : Int) ^ s ≤ 1000000000000000000 := by
  have h := pow_split s hs
  have h1 := pow_pos' s
  have h2 := pow_pos' (18 - s)
  have h3 : (10 : Int) ^ s * 1 ≤ 10 ^ s * 10 ^ (18 - s) := Int.mul_le_mul_of_nonneg_left (by omega) (by omega)
  omega
/-- What compares two numbers. -/
def cmpI (x y : Int) : Int := if x < y then -1 else if y < x then 1 else 0
theorem lex_cmp (x y : Int) : (if cmpI (Int.tdiv x 1000000000000000000) (Int.tdiv y 1000000000000000000) = 0 then cmpI (Int.tmod x 1000000000000000000) (Int.tmod y 1000000000000000000) else cmpI (Int.tdiv x 1000000000000000000) (Int.tdiv y 1000000000000000000)) = cmpI x y := by
  obtain ⟨q1, r1, e1, e2, e3, e4, e5, e6, e7⟩ := tsplit x 1000000000000000000 (by decide)
  obtain ⟨q2, r2, f1, f2, f3, f4, f5, f6, f7⟩ := tsplit y 1000000000000000000 (by decide)
  rw [e1, e2, f1, f2]
  unfold cmpI
  repeat' split
  all_goals omega
theorem or_ok (k : Nat) (hk : 3 ≤ k) (c d : Int) : cmp_Or_int.f k [c, d] = some (if c = 0 then d else c) := by
  refine at_rounds (fun k => cmp_Or_int.mono _ k) hk ?_
  unfold cmp_Or_int.f
  by_cases hc : c = 0
  · by_cases hd : d = 0
    · subst hc; subst hd
      decide +kernel
    · subst hc
      simp [cmp_Or_int.l0, rd, wrap64, hd]
  · simp [cmp_Or_int.l0, rd, wrap64, hc]
theorem compare_ok (a b : Int) : cmp_Compare_int.f a b = some (cmpI a b) := by
  unfold cmp_Compare_int.f cmp_isNaN_int.f cmpI
  simp
  repeat' split
  all_goals first | rfl | omega
theorem scale_div (m : Int) (s : Nat) (hs : s ≤ 18) : Int.tdiv m (10 ^ s) = Int.tdiv (m * 10 ^ (18 - s)) 1000000000000000000 ∧ Int.tmod m (10 ^ s) * 10 ^ (18 - s) = Int.tmod (m * 10 ^ (18 - s)) 1000000000000000000 := by
  have hp := pow_pos' (18 - s)
  have h1 := Int.mul_tdiv_mul_of_pos m (10 ^ s) hp
  have h2 := Int.mul_tmod_mul_of_pos m (10 ^ s) hp
  have e : (10 : Int) ^ (18 - s) * 10 ^ s = 1000000000000000000 := by rw [Int.mul_comm]; exact pow_split s hs
  rw [e, Int.mul_comm _ m] at h1 h2
  exact ⟨h1.symm, by rw [h2, Int.mul_comm]⟩
theorem mod_small (m : Int) (s : Nat) (hs : s ≤ 18) : -1000000000000000000 < Int.tmod m (10 ^ s) * 10 ^ (18 - s) ∧ Int.tmod m (10 ^ s) * 10 ^ (18 - s) < 1000000000000000000 := by
  rw [(scale_div m s hs).2]
  exact ⟨Int.lt_tmod_of_pos _ (by decide), Int.tmod_lt_of_pos _ (by decide)⟩
theorem div_small (m : Int) (s : Nat) (h0 : -9223372036854775808 ≤ m) (h1 : m ≤ 9223372036854775807) : -9223372036854775808 ≤ Int.tdiv m (10 ^ s) ∧ Int.tdiv m (10 ^ s) ≤ 9223372036854775807 := by
  obtain ⟨q, r, e1, e2, e3, e4, e5, e6, e7⟩ := tsplit m (10 ^ s) (pow_pos' s)
  rw [e1]
  have hp := pow_pos' s
  generalize (10 : Int) ^ s = P at *
  rcases Int.lt_or_le m 0 with h | h
  · obtain ⟨hr, hq⟩ := e7 (by omega)
    have : P * q ≤ 1 * q := Int.mul_le_mul_of_nonpos_right (by omega) hq
    omega
  · obtain ⟨hr, hq⟩ := e6 h
    have : 1 * q ≤ P * q := Int.mul_le_mul_of_nonneg_right (by omega) hq
    omega
theorem div_bound_all : ∀ s : Fin 19, Int.tdiv 1000000000000000000 ((10 : Int) ^ s.val) = 10 ^ (18 - s.val) := by decide +kernel
theorem parts_ok (k : Nat) (hk : 30 ≤ k) (m : Int) (s : Nat) (hs : s ≤ 18) (h0 : -9223372036854775808 ≤ m) (h1 : m ≤ 9223372036854775807) :
    dec_decimal_parts.f k m (s : Int) = some (Int.tdiv (m * 10 ^ (18 - s)) 1000000000000000000, Int.tmod (m * 10 ^ (18 - s)) 1000000000000000000) := by
  unfold dec_decimal_parts.f
  have e : mn (mx (s : Int) 0) 18 = (s : Int) := by
    unfold mn mx
    repeat' split
    all_goals omega
  have hp := pow_pos' s
  have hq := pow_le' (18 - s) (by omega)
  have hq1 := pow_pos' (18 - s)
  rw [e, ten_ok k s hk hs, Option.bind_some, if_neg (by omega), bound_ok k hk, Option.bind_some, div_bound_all ⟨s, by omega⟩]
  have hm := mod_small m s hs
  have hd := div_small m s h0 h1
  rw [wrapIn _ hd.1 hd.2, wrapIn (10 ^ (18 - s)) (by omega) (by omega), wrapIn _ (by omega) (by omega), (scale_div m s hs).1, (scale_div m s hs).2]
theorem cmp_ok (k : Nat) (hk : 30 ≤ k) (m n : Int) (s t : Nat) (hs : s ≤ 18) (ht : t ≤ 18) (h0 : -9223372036854775808 ≤ m) (h1 : m ≤ 9223372036854775807) (g0 : -9223372036854775808 ≤ n) (g1 : n ≤ 9223372036854775807) :
    dec_Cmp.f k m (s : Int) n (t : Int) = some (cmpI (m * 10 ^ (18 - s)) (n * 10 ^ (18 - t))) := by
  unfold dec_Cmp.f
  rw [parts_ok k hk m s hs h0 h1, Option.bind_some, parts_ok k hk n t ht g0 g1, Option.bind_some, compare_ok, Option.bind_some, compare_ok, Option.bind_some, or_ok k (by omega), lex_cmp]
end Go.Proofs.YtjbihflpjkaifaaDoor.Plain
