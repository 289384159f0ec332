/- FoldDigits holds for every input: each system's digits are folded to their numbers. No condition. -/
import Derived.Test.YtmpmjghhikdefaaPlain3
import Derived.Test.YtmpmjghhikdefaaGx19
namespace Go.Proofs.Ytmpmjghhikdefaa.Pure
open Go.RowKit Go.Proofs.Ytmpmjghhikdefaa.G Go.Proofs.YtmpmjghhikdefaaW.PrintWords Go.Proofs.YtmpmjghhikdefaaW.PrintLast Go.Proofs.YtmpmjghhikdefaaW.PrintMore Go.Proofs.Ytmpmjghhikdefaa.Plain
set_option linter.unusedVariables false
set_option linter.unusedSimpArgs false
def digitsBody (k : Nat) (c n : Int) : Option Bool :=
  (fold_Digit.f k c n).bind fun s => (fold_Fold.f s).bind fun p => (interlocutorref3_Digit.f c n).bind fun z => (fold_Text.f s).bind fun u =>
  if true = true ∧ s = z ∧ p.1 = [48 + n] ∧ u = strOfNums [48 + n] ∧ 0 ≤ n ∧ n ≤ 9 then some true else none
theorem digits_all : ∀ c : Fin 4, ∀ n : Fin 10, digitsBody 40 (c.val : Int) (n.val : Int) = some true := by decide +kernel
theorem FoldDigits : interlocutorlaw3_FoldDigits.Pure := by
  intro a0 a1 w0 w1
  refine ⟨40, ?_⟩
  unfold interlocutorlaw3_FoldDigits.f
  rw [known_k 40 (by decide), Option.bind_some, within_ok a0 4 (by decide) (by decide), Option.bind_some, within_ok a1 10 (by decide) (by decide), Option.bind_some]
  obtain ⟨c, hc, hc1⟩ : ∃ c : Nat, a0 % 4 = (c : Int) ∧ c < 4 := ⟨(a0 % 4).toNat, by omega, by omega⟩
  obtain ⟨n, hn, hn1⟩ : ∃ n : Nat, a1 % 10 = (n : Int) ∧ n < 10 := ⟨(a1 % 10).toNat, by omega, by omega⟩
  rw [hc, hn]
  exact digits_all ⟨c, hc1⟩ ⟨n, hn1⟩
end Go.Proofs.Ytmpmjghhikdefaa.Pure
