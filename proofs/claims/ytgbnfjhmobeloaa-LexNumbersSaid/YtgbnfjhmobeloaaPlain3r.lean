/- Plain facts on the printed functions of the reference of fold: signs. -/
import Derived.Test.YtgbnfjhmobeloaaPlain6
import Derived.Test.YtgbnfjhmobeloaaGx5
namespace Go.Proofs.Ytgbnfjhmobeloaa.Plain
open Go.RowKit Go.Proofs.Ytgbnfjhmobeloaa.G Go.Proofs.YtgbnfjhmobeloaaW.PrintWords Go.Proofs.YtgbnfjhmobeloaaW.PrintLast Go.Proofs.YtgbnfjhmobeloaaW.PrintMore
set_option linter.unusedVariables false
set_option linter.unusedSimpArgs false
theorem in_ok (a b c : Int) : interlocutorref3_in.f a b c = some (decide (b ≤ a ∧ a ≤ c)) := by
  unfold interlocutorref3_in.f
  split
  · congr 1
    rw [decide_eq_decide]
    omega
  · congr 1
    symm
    rw [decide_eq_false_iff_not]
    omega
theorem blank_ok (r : Int) : interlocutorref3_blank.f r = some (decide (r = 9 ∨ r = 160 ∨ (8192 ≤ r ∧ r ≤ 8202) ∨ r = 8239 ∨ r = 8287 ∨ r = 12288)) := by
  unfold interlocutorref3_blank.f
  rw [in_ok]
  simp only [Option.bind_some]
  repeat' split
  all_goals
    congr 1
    rw [Bool.eq_iff_iff]
    simp only [beq_iff_eq, decide_eq_true_eq, true_iff] at *
    omega
theorem dash_ok (r : Int) : interlocutorref3_dash.f r = some (decide ((8208 ≤ r ∧ r ≤ 8213) ∨ r = 8722)) := by
  unfold interlocutorref3_dash.f
  rw [in_ok]
  simp only [Option.bind_some]
  repeat' split
  all_goals
    congr 1
    rw [Bool.eq_iff_iff]
    simp only [beq_iff_eq, decide_eq_true_eq, true_iff] at *
    omega
theorem quote_ok (r : Int) : interlocutorref3_quote.f r = some (decide (r = 8216 ∨ r = 8217 ∨ r = 700)) := by
  unfold interlocutorref3_quote.f
  repeat' split
  all_goals
    congr 1
    rw [Bool.eq_iff_iff]
    simp only [beq_iff_eq, decide_eq_true_eq, true_iff]
    omega
theorem digit_ok (r : Int) : interlocutorref3_digit.f r = some (if 1632 ≤ r ∧ r ≤ 1641 then r - 1632 else if 1776 ≤ r ∧ r ≤ 1785 then r - 1776 else if 2406 ≤ r ∧ r ≤ 2415 then r - 2406 else -1) := by
  unfold interlocutorref3_digit.f
  rw [in_ok, in_ok, in_ok]
  simp only [Option.bind_some, decide_eq_true_eq]
  repeat' split
  all_goals first
    | rfl
    | (rw [wrapIn _ (by omega) (by omega)])
    | omega
set_option maxHeartbeats 2000000 in
theorem ref_rune (a : Int) (h0 : -9223372036854775808 ≤ a) (h1 : a ≤ 9223372036854775807) : interlocutorref3_Rune.f 9 a = some (runeP a) := by
  have j2t : ∀ r : Int, interlocutorref3_Rune.j2 7 r true = some (wrap64 (r + 32)) := fun r => by simp [interlocutorref3_Rune.j2]
  have j2f : ∀ (k : Nat) (r : Int), interlocutorref3_Rune.j2 (k + 1) r false = some (if 1024 ≤ r ∧ r ≤ 1039 then wrap64 (r + 80) else r) := fun k r => by
    simp only [interlocutorref3_Rune.j2]
    rw [if_neg (by simp), in_ok]
    simp only [Option.bind_some, decide_eq_true_eq]
    split <;> rfl
  have j2a : ∀ (k : Nat) (r : Int) (b : Bool), interlocutorref3_Rune.j2 (k + 1) r b = some (if b = true then wrap64 (r + 32) else if 1024 ≤ r ∧ r ≤ 1039 then wrap64 (r + 80) else r) := fun k r b => by
    cases b
    · rw [j2f]; simp
    · simp [interlocutorref3_Rune.j2]
  have j1a : ∀ (k : Nat) (r : Int) (b : Bool), interlocutorref3_Rune.j1 (k + 2) r b = some (if b = true ∨ (913 ≤ r ∧ r ≤ 937 ∧ r ≠ 930) ∨ (1040 ≤ r ∧ r ≤ 1071) then wrap64 (r + 32) else if 1024 ≤ r ∧ r ≤ 1039 then wrap64 (r + 80) else r) := fun k r b => by
    simp only [interlocutorref3_Rune.j1]
    rw [in_ok, in_ok, j2a]
    simp only [Option.bind_some, j2a, decide_eq_true_eq]
    repeat' split
    all_goals first
      | rfl
      | (exfalso; simp_all; done)
      | (exfalso; simp_all; omega)
  have j0a : ∀ (k : Nat) (r : Int), -9223372036854775808 ≤ r → r ≤ 9223372036854775807 → interlocutorref3_Rune.j0 (k + 3) r = some (
      if r = 9 ∨ r = 160 ∨ (8192 ≤ r ∧ r ≤ 8202) ∨ r = 8239 ∨ r = 8287 ∨ r = 12288 then 32
      else if (8208 ≤ r ∧ r ≤ 8213) ∨ r = 8722 then 45
      else if r = 8216 ∨ r = 8217 ∨ r = 700 then 39
      else if 1632 ≤ r ∧ r ≤ 1641 then r - 1632 + 48
      else if 1776 ≤ r ∧ r ≤ 1785 then r - 1776 + 48
      else if 2406 ≤ r ∧ r ≤ 2415 then r - 2406 + 48
      else if (65 ≤ r ∧ r ≤ 90) ∨ (192 ≤ r ∧ r ≤ 222 ∧ r ≠ 215) ∨ (913 ≤ r ∧ r ≤ 937 ∧ r ≠ 930) ∨ (1040 ≤ r ∧ r ≤ 1071) then r + 32
      else if 1024 ≤ r ∧ r ≤ 1039 then r + 80
      else r) := fun k r g0 g1 => by
    simp only [interlocutorref3_Rune.j0]
    rw [blank_ok, dash_ok, quote_ok, digit_ok, in_ok, in_ok]
    simp only [Option.bind_some, decide_eq_true_eq, j2a, j1a]
    by_cases c1 : r = 9 ∨ r = 160 ∨ (8192 ≤ r ∧ r ≤ 8202) ∨ r = 8239 ∨ r = 8287 ∨ r = 12288
    · rw [if_pos c1, if_pos c1]
    rw [if_neg c1, if_neg c1]
    by_cases c2 : (8208 ≤ r ∧ r ≤ 8213) ∨ r = 8722
    · rw [if_pos c2, if_pos c2]
    rw [if_neg c2, if_neg c2]
    by_cases c3 : r = 8216 ∨ r = 8217 ∨ r = 700
    · rw [if_pos c3, if_pos c3]
    rw [if_neg c3, if_neg c3]
    by_cases c4 : 1632 ≤ r ∧ r ≤ 1641
    · simp only [if_pos c4]
      rw [if_pos (by omega), wrapIn _ (by omega) (by omega)]
      congr 1
      omega
    simp only [if_neg c4]
    by_cases c5 : 1776 ≤ r ∧ r ≤ 1785
    · simp only [if_pos c5]
      rw [if_pos (by omega), wrapIn _ (by omega) (by omega)]
      congr 1
      omega
    simp only [if_neg c5]
    by_cases c6 : 2406 ≤ r ∧ r ≤ 2415
    · simp only [if_pos c6]
      rw [if_pos (by omega), wrapIn _ (by omega) (by omega)]
      congr 1
      omega
    simp only [if_neg c6]
    rw [if_neg (by omega)]
    by_cases c7 : 65 ≤ r ∧ r ≤ 90
    · rw [if_pos c7, if_pos c7, if_pos (Or.inl c7), wrapIn _ (by omega) (by omega)]
    rw [if_neg c7]
    by_cases c8 : 192 ≤ r ∧ r ≤ 222
    · rw [if_pos c8]
      by_cases c9 : r = 215
      · subst c9; rfl
      · rw [if_pos (.inl (by simpa using c9)), if_pos (.inr (.inl ⟨c8.1, c8.2, c9⟩)), wrapIn _ (by omega) (by omega)]
    rw [if_neg c8]
    by_cases c10 : (913 ≤ r ∧ r ≤ 937 ∧ r ≠ 930) ∨ (1040 ≤ r ∧ r ≤ 1071)
    · rw [if_pos (.inr c10), if_pos (.inr (.inr c10)), wrapIn _ (by omega) (by omega)]
    simp only [Bool.false_eq_true, false_or, if_neg c10]
    rw [if_neg (show ¬ ((65 ≤ r ∧ r ≤ 90) ∨ (192 ≤ r ∧ r ≤ 222 ∧ r ≠ 215) ∨ (913 ≤ r ∧ r ≤ 937 ∧ r ≠ 930) ∨ (1040 ≤ r ∧ r ≤ 1071)) by omega)]
    split
    · rw [wrapIn _ (by omega) (by omega)]
    · rfl
  unfold interlocutorref3_Rune.f
  rw [in_ok]
  simp only [Option.bind_some, decide_eq_true_eq]
  unfold runeP
  simp only []
  by_cases c : 65281 ≤ a ∧ a ≤ 65374
  · rw [if_pos c, wrapIn _ (by omega) (by omega), j0a 6 _ (by omega) (by omega)]
    simp only [if_pos c]
  · rw [if_neg c, j0a 6 _ (by omega) (by omega)]
    simp only [if_neg c]
theorem ref_rune_k (k : Nat) (hk : 9 ≤ k) (a : Int) (h0 : -9223372036854775808 ≤ a) (h1 : a ≤ 9223372036854775807) : interlocutorref3_Rune.f k a = some (runeP a) :=
  at_rounds (fun k => interlocutorref3_Rune.mono a k) hk (ref_rune a h0 h1)
theorem runeP_in (a : Int) (h0 : -9223372036854775808 ≤ a) (h1 : a ≤ 9223372036854775807) : -9223372036854775808 ≤ runeP a ∧ runeP a ≤ 9223372036854775807 := by
  unfold runeP
  simp only []
  split <;> (repeat' split) <;> omega
/-- What is folded to itself. -/
def FixP (r : Int) : Prop := ¬ (65281 ≤ r ∧ r ≤ 65374) ∧ ¬ (r = 9 ∨ r = 160 ∨ (8192 ≤ r ∧ r ≤ 8202) ∨ r = 8239 ∨ r = 8287 ∨ r = 12288) ∧ ¬ ((8208 ≤ r ∧ r ≤ 8213) ∨ r = 8722) ∧ ¬ (r = 8216 ∨ r = 8217 ∨ r = 700) ∧ ¬ (1632 ≤ r ∧ r ≤ 1641) ∧ ¬ (1776 ≤ r ∧ r ≤ 1785) ∧ ¬ (2406 ≤ r ∧ r ≤ 2415) ∧ ¬ ((65 ≤ r ∧ r ≤ 90) ∨ (192 ≤ r ∧ r ≤ 222 ∧ r ≠ 215) ∨ (913 ≤ r ∧ r ≤ 937 ∧ r ≠ 930) ∨ (1040 ≤ r ∧ r ≤ 1071)) ∧ ¬ (1024 ≤ r ∧ r ≤ 1039)
theorem runeP_of_fix {r : Int} (h : FixP r) : runeP r = r := by
  obtain ⟨h0, h1, h2, h3, h4, h5, h6, h7, h8⟩ := h
  unfold runeP
  simp only [if_neg h0, if_neg h1, if_neg h2, if_neg h3, if_neg h4, if_neg h5, if_neg h6, if_neg h7, if_neg h8]
set_option maxHeartbeats 2000000 in
theorem runeP_fix (a : Int) : FixP (runeP a) := by
  unfold runeP
  generalize hr : (if 65281 ≤ a ∧ a ≤ 65374 then a - 65248 else a) = r
  have hw : ¬ (65281 ≤ r ∧ r ≤ 65374) := by split at hr <;> omega
  clear hr
  unfold FixP
  simp only []
  repeat' split
  all_goals omega
theorem runeP_twice (a : Int) : runeP (runeP a) = runeP a := runeP_of_fix (runeP_fix a)
end Go.Proofs.Ytgbnfjhmobeloaa.Plain
