/- The document's comparison is the program's: in plain words. -/
import Derived.Test.YtlgndfplikhflaaDoorPlain10
import Derived.Test.YtlgndfplikhflaaDoorGx15
namespace Go.Proofs.YtlgndfplikhflaaDoor.Plain
open Go.RowKit Go.Proofs.YtlgndfplikhflaaDoor.G Go.Proofs.YtlgndfplikhflaaDoorW.PrintWords Go.Proofs.YtlgndfplikhflaaDoorW.PrintLast Go.Proofs.YtlgndfplikhflaaDoorW.PrintMore
set_option linter.unusedVariables false
set_option linter.unusedSimpArgs false
theorem order_eq (a b : Int) : interlocutorref10_order.f a b = some (cmpI a b) := by
  unfold interlocutorref10_order.f cmpI
  repeat' split
  all_goals rfl
theorem refCmp_loop (a b : Int) (l m : List Int) (he : l.length = m.length) (hl : l.length ≤ 1000000) : ∀ (n i : Nat), i + n = l.length → ∀ k, n + 1 ≤ k → interlocutorref10_Cmp.l0 k (i : Int) a l b m = some (cmpL (l.drop i) (m.drop i)) := by
  intro n
  induction n with
  | zero =>
    intro i hi k hk
    obtain ⟨k, rfl⟩ : ∃ j, k = j + 1 := ⟨k - 1, by omega⟩
    simp only [interlocutorref10_Cmp.l0]
    rw [if_neg (by omega), List.drop_of_length_le (by omega), List.drop_of_length_le (by omega)]
    rfl
  | succ n ih =>
    intro i hi k hk
    obtain ⟨k, rfl⟩ : ∃ j, k = j + 1 := ⟨k - 1, by omega⟩
    simp only [interlocutorref10_Cmp.l0]
    have hw : wrap64 ((i : Int) + 1) = ((i + 1 : Nat) : Int) := by unfold wrap64; omega
    rw [if_pos (by omega), if_pos (by omega), if_pos (by omega), order_eq, Option.bind_some, at_drop l i (by omega), at_drop m i (by omega), hw]
    simp only [cmpL, or2]
    by_cases h : cmpI (rd l i) (rd m i) = 0
    · rw [if_pos h, if_pos h]
      exact ih (i + 1) (by omega) k (by omega)
    · rw [if_neg h, if_neg h]
theorem refCmp_eq (a b : Int) (l m : List Int) (hl : l.length ≤ 1000000) (k : Nat) (hk : l.length + 1 ≤ k) : interlocutorref10_Cmp.f k a l b m = some (cmpV (a, l) (b, m)) := by
  unfold interlocutorref10_Cmp.f
  rw [order_eq, Option.bind_some, order_eq]
  simp only [cmpV, or2]
  by_cases h1 : cmpI a b = 0
  · rw [if_pos h1, if_pos h1, Option.bind_some]
    by_cases h2 : cmpI (l.length : Int) (m.length : Int) = 0
    · rw [if_pos h2, if_pos h2]
      have he := (cmpI_zero _ _).1 h2
      exact refCmp_loop a b l m (by omega) hl l.length 0 (by omega) k hk
    · rw [if_neg h2, if_neg h2]
  · rw [if_neg h1, if_neg h1]
end Go.Proofs.YtlgndfplikhflaaDoor.Plain
