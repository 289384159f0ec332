/- Plain facts on the printed functions of lex's laws: known, within, At. -/
import Derived.Test.YtgbnfjhmobeloaaPlain6k
import Derived.Test.YtgbnfjhmobeloaaGx14
namespace Go.Proofs.Ytgbnfjhmobeloaa.Plain
open Go.RowKit Go.Proofs.Ytgbnfjhmobeloaa.G Go.Proofs.YtgbnfjhmobeloaaW.PrintWords Go.Proofs.YtgbnfjhmobeloaaW.PrintLast Go.Proofs.YtgbnfjhmobeloaaW.PrintMore
set_option linter.unusedVariables false
set_option linter.unusedSimpArgs false
theorem within_ok (a n : Int) (hn : 0 < n) (hn2 : n ≤ 4611686018427387904) : interlocutorlaw6_within.f a n = some (a % n) := by
  unfold interlocutorlaw6_within.f
  rw [if_neg (by omega)]
  have h1 := Int.emod_nonneg a (show n ≠ 0 by omega)
  have h2 := Int.emod_lt_of_pos a hn
  rw [Int.tmod_eq_emod]
  have hn3 : (n.natAbs : Int) = n := by omega
  split
  · rw [if_neg (by omega)]
    simp
  · rw [hn3, if_pos (by omega), wrapIn _ (by omega) (by omega)]
    congr 1
    omega
theorem wrap_succ (i : Nat) (h : i < 1000000000000000000) : wrap64 ((i : Int) + 1) = ((i + 1 : Nat) : Int) := by rw [wrapIn _ (by omega) (by omega)]; omega
theorem i64_of_wf {a : Int} (h : (Lit.int .i64 a).wf = true) : -9223372036854775808 ≤ a ∧ a ≤ 9223372036854775807 := by
  simp [Lit.wf, IntKind.min, IntKind.max, IntKind.signed, IntKind.bits] at h
  omega
theorem rune_k (k : Nat) (hk : 40 ≤ k) (a : Int) (h0 : -9223372036854775808 ≤ a) (h1 : a ≤ 9223372036854775807) : fold_Rune.f k a = some (runeP a) :=
  at_rounds (fun k => fold_Rune.mono a k) hk (rune_ok a h0 h1)
/-- lex.At keeps the signs from a place on. -/
theorem rdT_get (l : List S47) (i : Nat) (h : i < l.length) : rd_T47 l (i : Int) = l[i] := by
  unfold rd_T47
  rw [List.getD_eq_getElem?_getD, show ((i : Int)).toNat = i from rfl, List.getElem?_eq_getElem h]
  rfl
theorem at_loop (a : Int) (l : List S47) (hl : l.length ≤ 1000000000) : ∀ (d k i : Nat) (o : List S47), i + d = l.length → d < k → o.length ≤ i →
    lex_At.l0 k a o l (l.length : Int) (i : Int) = some (o ++ (l.drop i).filter (fun x => decide (x.f0 = a))) := by
  intro d
  induction d with
  | zero =>
    intro k i o hi hk ho
    obtain ⟨k, rfl⟩ : ∃ m, k = m + 1 := ⟨k - 1, by omega⟩
    simp only [lex_At.l0]
    rw [if_neg (by omega), List.drop_eq_nil_of_le (by omega), List.filter_nil, List.append_nil]
    unfold api_Tok_42.f
    rw [if_pos (by omega)]
    rfl
  | succ d ih =>
    intro k i o hi hk ho
    obtain ⟨k, rfl⟩ : ∃ m, k = m + 1 := ⟨k - 1, by omega⟩
    have hlt : i < l.length := by omega
    simp only [lex_At.l0]
    rw [if_pos (by omega), if_pos (by omega), if_pos (by omega), rdT_get l i hlt, wrap_succ i (by omega)]
    have e : (l.drop i).filter (fun x => decide (x.f0 = a)) = (if l[i].f0 = a then [l[i]] else []) ++ (l.drop (i + 1)).filter (fun x => decide (x.f0 = a)) := by
      rw [List.drop_eq_getElem_cons hlt, List.filter_cons]
      by_cases c : l[i].f0 = a
      · rw [if_pos (by rw [decide_eq_true c]), if_pos c]
        rfl
      · rw [if_neg (by rw [decide_eq_false c]; exact Bool.false_ne_true), if_neg c]
        rfl
    rw [e]
    by_cases c : l[i].f0 = a
    · rw [if_pos c, if_pos c, if_pos (by omega), ih k (i + 1) _ (by omega) (by omega) (by rw [List.length_append, List.length_singleton]; omega), List.append_assoc]
    · rw [if_neg c, if_neg c, ih k (i + 1) _ (by omega) (by omega) (by omega), List.nil_append]
theorem at_ok (a : Int) (l : List S47) (hl : l.length ≤ 1000000000) (k : Nat) (hk : l.length < k) : lex_At.f k l a = some (l.filter (fun x => decide (x.f0 = a))) := by
  unfold lex_At.f
  have := at_loop a l hl l.length k 0 [] (by omega) hk (by simp)
  rw [List.drop_zero, List.nil_append] at this
  exact this
def kLex : List S53 := [⟨(⟨#[109, 97, 121]⟩ : ByteArray), 1, 5⟩]
def kText : List Int := [32, 49, 50, 109, 97, 121]
def kToks : List S47 := rawF kText (wordsF kLex) 6
theorem known_raw : kToks = [⟨0, 3, 0, 12, 2⟩, ⟨1, 3, 0, 12, 2⟩, ⟨2, 3, 0, 2, 1⟩, ⟨3, 6, 1, 5, 0⟩] := by kernel_rfl
theorem known_toks : lex_Tokens.f (⟨#[]⟩ : ByteArray) 0 0 kLex [] [] kText = some [⟨0, 3, 0, 12, 2⟩, ⟨1, 3, 0, 12, 2⟩, ⟨2, 3, 0, 2, 1⟩, ⟨3, 6, 1, 5, 0⟩] := by
  have e : rawF kText (wordsF kLex) kText.length = kToks := rfl
  rw [lex_Tokens.f_is _ _ _ _ _ _ _ (by decide) (by decide) (fun e he => by
    obtain rfl := List.mem_singleton.1 he
    decide), tok_of_lt (by rw [e, known_raw]; decide +kernel), e, known_raw]
theorem known_ok : interlocutorlaw6_known.f 30 = some true := by
  have h1 : (interlocutorref3_Fold.f 30 (⟨#[32, 49, 50, 109, 97, 121]⟩ : ByteArray)).map (fun p => p.1) = some kText := by kernel_rfl
  have h2 : lex_Tokens.f (⟨#[]⟩ : ByteArray) 0 0 kLex [] [] [] = some [] := by
    rw [lex_Tokens.f_is _ _ _ _ _ _ _ (by decide) (by decide) (fun e he => by
      obtain rfl := List.mem_singleton.1 he
      decide), tok_of_lt (by exact List.Pairwise.nil)]
    rfl
  obtain ⟨p, hp, hp1⟩ := Option.map_eq_some_iff.1 h1
  unfold interlocutorlaw6_known.f
  rw [Option.bind_some, hp, Option.bind_some, hp1]
  rw [show ([(⟨(⟨#[109, 97, 121]⟩ : ByteArray), 1, 5⟩ : S53)] : List (S53)) = kLex from rfl, known_toks, Option.bind_some]
  rw [h2]
  change _ = _
  kernel_rfl
theorem known_k (k : Nat) (h : 30 ≤ k) : interlocutorlaw6_known.f k = some true := at_rounds (fun k => interlocutorlaw6_known.mono k) h known_ok
end Go.Proofs.Ytgbnfjhmobeloaa.Plain
