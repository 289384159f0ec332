/- FoldSystems holds for every four numbers: each system's digits stand one behind the other; no two are one sign. No condition. -/
import Derived.Test.YtmpmjghhikdefaaPlain3
import Derived.Test.YtmpmjghhikdefaaGx24
namespace Go.Proofs.Ytmpmjghhikdefaa.Pure
open Go.RowKit Go.Proofs.Ytmpmjghhikdefaa.G Go.Proofs.YtmpmjghhikdefaaW.PrintWords Go.Proofs.YtmpmjghhikdefaaW.PrintLast Go.Proofs.YtmpmjghhikdefaaW.PrintMore Go.Proofs.Ytmpmjghhikdefaa.Plain
set_option linter.unusedVariables false
set_option linter.unusedSimpArgs false
/-- What is left, once the numbers are small. -/
def sysBody (t457 t458 t459 t460 : Int) : Option Bool := (fold_Digit.f 60 t457 t458).bind fun t461 => ((fold_Digit.f 60 t459 t460).bind fun t462 => (if t457 = t459 then (if ((t461.toList == t462.toList) == (t458 == t460)) = true then ((fold_Text.f t461).bind fun t463 => ((fold_Text.f t462).bind fun t464 => (if ((t463.toList == t464.toList) == (t458 == t460)) = true then ((some (([1, 2, 2, 3] : List Int) : List Int)).bind fun y465 => (if 0 ≤ t457 then (if t457 < (y465.length : Int) then (some ((t461.size : Int) == (rd y465 t457))) else (none)) else (none))) else (some false)))) else (some false)) else (if ((t461.toList == t462.toList) == false) = true then ((fold_Text.f t461).bind fun t469 => ((fold_Text.f t462).bind fun t470 => (if ((t469.toList == t470.toList) == (t458 == t460)) = true then ((some (([1, 2, 2, 3] : List Int) : List Int)).bind fun y471 => (if 0 ≤ t457 then (if t457 < (y471.length : Int) then (some ((t461.size : Int) == (rd y471 t457))) else (none)) else (none))) else (some false)))) else (some false))))
theorem sys_all : ∀ p : Fin 4, ∀ q : Fin 10, ∀ r : Fin 4, ∀ s : Fin 10, sysBody ((p.val : Nat) : Int) ((q.val : Nat) : Int) ((r.val : Nat) : Int) ((s.val : Nat) : Int) = some true := by decide +kernel
theorem fin_of (n : Nat) (a : Int) (hn : 0 < n) : ∃ p : Fin n, a % (n : Int) = ((p.val : Nat) : Int) := by
  have h0 := Int.emod_nonneg a (show (n : Int) ≠ 0 by omega)
  have h1 := Int.emod_lt_of_pos a (show (0 : Int) < n by omega)
  exact ⟨⟨(a % (n : Int)).toNat, by omega⟩, by simp only []; omega⟩
theorem FoldSystems : interlocutorlaw3_FoldSystems.Pure := by
  intro a0 a1 a2 a3 _ _ _ _
  refine ⟨60, ?_⟩
  unfold interlocutorlaw3_FoldSystems.f
  rw [known_k 60 (by omega), Option.bind_some, if_pos rfl, within_ok a0 4 (by omega) (by omega), Option.bind_some, within_ok a1 10 (by omega) (by omega), Option.bind_some, within_ok a2 4 (by omega) (by omega), Option.bind_some, within_ok a3 10 (by omega) (by omega), Option.bind_some]
  obtain ⟨p, hp⟩ := fin_of 4 a0 (by omega)
  obtain ⟨q, hq⟩ := fin_of 10 a1 (by omega)
  obtain ⟨r, hr⟩ := fin_of 4 a2 (by omega)
  obtain ⟨s, hs⟩ := fin_of 10 a3 (by omega)
  rw [show a0 % 4 = _ from hp, show a1 % 10 = _ from hq, show a2 % 4 = _ from hr, show a3 % 10 = _ from hs]
  exact sys_all p q r s
end Go.Proofs.Ytmpmjghhikdefaa.Pure
