/- Plain facts on the printed functions of fold and of its law's helpers. -/
import Derived.Test.YtmpmjghhikdefaaGx6
namespace Go.Proofs.Ytmpmjghhikdefaa.Plain
open Go.RowKit Go.Proofs.Ytmpmjghhikdefaa.G Go.Proofs.YtmpmjghhikdefaaW.PrintWords Go.Proofs.YtmpmjghhikdefaaW.PrintLast Go.Proofs.YtmpmjghhikdefaaW.PrintMore
set_option linter.unusedVariables false
set_option linter.unusedSimpArgs false
theorem known_ok : interlocutorlaw3_known.f 10 = some true := by kernel_rfl
theorem known_k (k : Nat) (h : 10 ≤ k) : interlocutorlaw3_known.f k = some true := at_rounds (fun k => interlocutorlaw3_known.mono k) h known_ok
theorem within_ok (a n : Int) (hn : 0 < n) (hn2 : n ≤ 4611686018427387904) : interlocutorlaw3_within.f a n = some (a % n) := by
  unfold interlocutorlaw3_within.f
  rw [if_neg (by omega)]
  have h1 := Int.emod_nonneg a (show n ≠ 0 by omega)
  have h2 := Int.emod_lt_of_pos a hn
  rw [Int.tmod_eq_emod]
  have hn3 : (n.natAbs : Int) = n := by omega
  split
  · rw [if_neg (by omega)]
    simp
  · rw [hn3, if_pos (by omega), wrapIn _ (by omega) (by omega)]
    congr 1
    omega
theorem wrap_succ (i : Nat) (h : i < 1000000000000000000) : wrap64 ((i : Int) + 1) = ((i + 1 : Nat) : Int) := by rw [wrapIn _ (by omega) (by omega)]; omega
theorem i64_of_wf {a : Int} (h : (Lit.int .i64 a).wf = true) : -9223372036854775808 ≤ a ∧ a ≤ 9223372036854775807 := by
  simp [Lit.wf, IntKind.min, IntKind.max, IntKind.signed, IntKind.bits] at h
  omega
theorem rune_k (k : Nat) (hk : 40 ≤ k) (a : Int) (h0 : -9223372036854775808 ≤ a) (h1 : a ≤ 9223372036854775807) : fold_Rune.f k a = some (runeP a) :=
  at_rounds (fun k => fold_Rune.mono a k) hk (rune_ok a h0 h1)
end Go.Proofs.Ytmpmjghhikdefaa.Plain
