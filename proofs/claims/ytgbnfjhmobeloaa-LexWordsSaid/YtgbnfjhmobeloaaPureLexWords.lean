import Derived.Test.YtgbnfjhmobeloaaGx14
import Derived.Test.YtgbnfjhmobeloaaGx15
import Derived.Test.YtgbnfjhmobeloaaGx21
import Derived.Test.YtgbnfjhmobeloaaGx6
import Derived.Test.YtgbnfjhmobeloaaGx4
import Derived.Test.YtgbnfjhmobeloaaGx7
import Derived.Test.YtgbnfjhmobeloaaGx20
import Derived.Test.YtgbnfjhmobeloaaGx16
import Derived.Test.YtgbnfjhmobeloaaGx22
namespace Go.Proofs.Ytgbnfjhmobeloaa.Plain
open Go.RowKit Go.Proofs.Ytgbnfjhmobeloaa.G Go.Proofs.YtgbnfjhmobeloaaW.PrintWords Go.Proofs.YtgbnfjhmobeloaaW.PrintLast Go.Proofs.YtgbnfjhmobeloaaW.PrintMore
set_option linter.unusedVariables false
set_option linter.unusedSimpArgs false
def ltT (x y : S47) : Prop := cmpT x y < 0
instance (x y : S47) : Decidable (ltT x y) := inferInstanceAs (Decidable (_ < _))
theorem cmpI_self (a : Int) : cmpI a a = 0 := by unfold cmpI; rw [if_neg (by omega), if_neg (by omega)]
theorem cmpT_self (x : S47) : cmpT x x = 0 := by unfold cmpT or2; simp only [cmpI_self, if_true]
theorem cmpI_anti (a b : Int) : cmpI b a = - cmpI a b := by
  unfold cmpI
  repeat' split
  all_goals omega
theorem cmpT_anti (x y : S47) : cmpT y x = - cmpT x y := by
  unfold cmpT or2
  rw [cmpI_anti x.f0 y.f0, cmpI_anti x.f1 y.f1, cmpI_anti x.f2 y.f2, cmpI_anti x.f3 y.f3, cmpI_anti x.f4 y.f4]
  repeat' split
  all_goals omega
theorem ltT_f0 {x y : S47} (h : x.f0 < y.f0) : ltT x y := by
  unfold ltT cmpT or2
  have e : cmpI x.f0 y.f0 = -1 := if_pos h
  rw [e, if_neg (by omega)]
  omega
theorem sort_of_lt {l : List S47} (h : l.Pairwise ltT) : sortT l = l := by
  unfold sortT
  refine List.mergeSort_of_pairwise (h.imp ?_)
  intro a b hab
  have e := cmpT_anti a b
  unfold ltT at hab
  show (!(decide (cmpT b a < 0))) = true
  rw [decide_eq_false (by omega)]
  rfl
theorem dedup_of_lt : ∀ {l : List S47}, l.Pairwise ltT → dedup l = l
  | [], _ => rfl
  | [_], _ => rfl
  | x :: y :: l, h => by
    have h1 := List.pairwise_cons.1 h
    have hne : ¬ sameT x y = true := fun e => by
      have hxy := h1.1 y (List.mem_cons_self ..)
      rw [(sameT_iff x y).1 e] at hxy
      unfold ltT at hxy
      rw [cmpT_self] at hxy
      omega
    rw [show dedup (x :: y :: l) = if sameT x y = true then dedup (y :: l) else x :: dedup (y :: l) from rfl, if_neg hne, dedup_of_lt h1.2]
theorem tok_of_lt {lex : List S53} {l : List Int} (h : (rawF l (wordsF lex) l.length).Pairwise ltT) : tokF lex l = rawF l (wordsF lex) l.length := by
  unfold tokF
  rw [sort_of_lt h, dedup_of_lt h]
end Go.Proofs.Ytgbnfjhmobeloaa.Plain

namespace Go.Proofs.Ytgbnfjhmobeloaa.Plain
open Go.RowKit Go.Proofs.Ytgbnfjhmobeloaa.G Go.Proofs.YtgbnfjhmobeloaaW.PrintWords Go.Proofs.YtgbnfjhmobeloaaW.PrintLast Go.Proofs.YtgbnfjhmobeloaaW.PrintMore
set_option linter.unusedVariables false
set_option linter.unusedSimpArgs false
theorem within_ok (a n : Int) (hn : 0 < n) (hn2 : n ≤ 4611686018427387904) : interlocutorlaw6_within.f a n = some (a % n) := by
  unfold interlocutorlaw6_within.f
  rw [if_neg (by omega)]
  have h1 := Int.emod_nonneg a (show n ≠ 0 by omega)
  have h2 := Int.emod_lt_of_pos a hn
  rw [Int.tmod_eq_emod]
  have hn3 : (n.natAbs : Int) = n := by omega
  split
  · rw [if_neg (by omega)]
    simp
  · rw [hn3, if_pos (by omega), wrapIn _ (by omega) (by omega)]
    congr 1
    omega
theorem wrap_succ (i : Nat) (h : i < 1000000000000000000) : wrap64 ((i : Int) + 1) = ((i + 1 : Nat) : Int) := by rw [wrapIn _ (by omega) (by omega)]; omega
theorem rdT_get (l : List S47) (i : Nat) (h : i < l.length) : rd_T47 l (i : Int) = l[i] := by
  unfold rd_T47
  rw [List.getD_eq_getElem?_getD, show ((i : Int)).toNat = i from rfl, List.getElem?_eq_getElem h]
  rfl
def kLex : List S53 := [⟨(⟨#[109, 97, 121]⟩ : ByteArray), 1, 5⟩]
def kText : List Int := [32, 49, 50, 109, 97, 121]
def kToks : List S47 := rawF kText (wordsF kLex) 6
theorem known_raw : kToks = [⟨0, 3, 0, 12, 2⟩, ⟨1, 3, 0, 12, 2⟩, ⟨2, 3, 0, 2, 1⟩, ⟨3, 6, 1, 5, 0⟩] := by kernel_rfl
theorem known_toks : lex_Tokens.f (⟨#[]⟩ : ByteArray) 0 0 kLex [] [] kText = some [⟨0, 3, 0, 12, 2⟩, ⟨1, 3, 0, 12, 2⟩, ⟨2, 3, 0, 2, 1⟩, ⟨3, 6, 1, 5, 0⟩] := by
  have e : rawF kText (wordsF kLex) kText.length = kToks := rfl
  rw [lex_Tokens.f_is _ _ _ _ _ _ _ (by decide) (by decide) (fun e he => by
    obtain rfl := List.mem_singleton.1 he
    decide), tok_of_lt (by rw [e, known_raw]; decide +kernel), e, known_raw]
theorem known_ok : interlocutorlaw6_known.f 30 = some true := by
  have h1 : (interlocutorref3_Fold.f 30 (⟨#[32, 49, 50, 109, 97, 121]⟩ : ByteArray)).map (fun p => p.1) = some kText := by kernel_rfl
  have h2 : lex_Tokens.f (⟨#[]⟩ : ByteArray) 0 0 kLex [] [] [] = some [] := by
    rw [lex_Tokens.f_is _ _ _ _ _ _ _ (by decide) (by decide) (fun e he => by
      obtain rfl := List.mem_singleton.1 he
      decide), tok_of_lt (by exact List.Pairwise.nil)]
    rfl
  obtain ⟨p, hp, hp1⟩ := Option.map_eq_some_iff.1 h1
  unfold interlocutorlaw6_known.f
  rw [Option.bind_some, hp, Option.bind_some, hp1]
  rw [show ([(⟨(⟨#[109, 97, 121]⟩ : ByteArray), 1, 5⟩ : S53)] : List (S53)) = kLex from rfl, known_toks, Option.bind_some]
  rw [h2]
  change _ = _
  kernel_rfl
theorem known_k (k : Nat) (h : 30 ≤ k) : interlocutorlaw6_known.f k = some true := at_rounds (fun k => interlocutorlaw6_known.mono k) h known_ok
end Go.Proofs.Ytgbnfjhmobeloaa.Plain

namespace Go.Proofs.Ytgbnfjhmobeloaa.Plain
open Go.RowKit Go.Proofs.Ytgbnfjhmobeloaa.G Go.Proofs.YtgbnfjhmobeloaaW.PrintWords Go.Proofs.YtgbnfjhmobeloaaW.PrintLast Go.Proofs.YtgbnfjhmobeloaaW.PrintMore
set_option linter.unusedVariables false
set_option linter.unusedSimpArgs false
theorem in_ok (a b c : Int) : interlocutorref3_in.f a b c = some (decide (b ≤ a ∧ a ≤ c)) := by
  unfold interlocutorref3_in.f
  split
  · congr 1
    rw [decide_eq_decide]
    omega
  · congr 1
    symm
    rw [decide_eq_false_iff_not]
    omega
theorem blank_ok (r : Int) : interlocutorref3_blank.f r = some (decide (r = 9 ∨ r = 160 ∨ (8192 ≤ r ∧ r ≤ 8202) ∨ r = 8239 ∨ r = 8287 ∨ r = 12288)) := by
  unfold interlocutorref3_blank.f
  rw [in_ok]
  simp only [Option.bind_some]
  repeat' split
  all_goals
    congr 1
    rw [Bool.eq_iff_iff]
    simp only [beq_iff_eq, decide_eq_true_eq, true_iff] at *
    omega
theorem dash_ok (r : Int) : interlocutorref3_dash.f r = some (decide ((8208 ≤ r ∧ r ≤ 8213) ∨ r = 8722)) := by
  unfold interlocutorref3_dash.f
  rw [in_ok]
  simp only [Option.bind_some]
  repeat' split
  all_goals
    congr 1
    rw [Bool.eq_iff_iff]
    simp only [beq_iff_eq, decide_eq_true_eq, true_iff] at *
    omega
theorem quote_ok (r : Int) : interlocutorref3_quote.f r = some (decide (r = 8216 ∨ r = 8217 ∨ r = 700)) := by
  unfold interlocutorref3_quote.f
  repeat' split
  all_goals
    congr 1
    rw [Bool.eq_iff_iff]
    simp only [beq_iff_eq, decide_eq_true_eq, true_iff]
    omega
theorem digit_ok (r : Int) : interlocutorref3_digit.f r = some (if 1632 ≤ r ∧ r ≤ 1641 then r - 1632 else if 1776 ≤ r ∧ r ≤ 1785 then r - 1776 else if 2406 ≤ r ∧ r ≤ 2415 then r - 2406 else -1) := by
  unfold interlocutorref3_digit.f
  rw [in_ok, in_ok, in_ok]
  simp only [Option.bind_some, decide_eq_true_eq]
  repeat' split
  all_goals first
    | rfl
    | (rw [wrapIn _ (by omega) (by omega)])
    | omega
set_option maxHeartbeats 2000000 in
theorem ref_rune (a : Int) (h0 : -9223372036854775808 ≤ a) (h1 : a ≤ 9223372036854775807) : interlocutorref3_Rune.f 9 a = some (runeP a) := by
  have j2t : ∀ r : Int, interlocutorref3_Rune.j2 7 r true = some (wrap64 (r + 32)) := fun r => by simp [interlocutorref3_Rune.j2]
  have j2f : ∀ (k : Nat) (r : Int), interlocutorref3_Rune.j2 (k + 1) r false = some (if 1024 ≤ r ∧ r ≤ 1039 then wrap64 (r + 80) else r) := fun k r => by
    simp only [interlocutorref3_Rune.j2]
    rw [if_neg (by simp), in_ok]
    simp only [Option.bind_some, decide_eq_true_eq]
    split <;> rfl
  have j2a : ∀ (k : Nat) (r : Int) (b : Bool), interlocutorref3_Rune.j2 (k + 1) r b = some (if b = true then wrap64 (r + 32) else if 1024 ≤ r ∧ r ≤ 1039 then wrap64 (r + 80) else r) := fun k r b => by
    cases b
    · rw [j2f]; simp
    · simp [interlocutorref3_Rune.j2]
  have j1a : ∀ (k : Nat) (r : Int) (b : Bool), interlocutorref3_Rune.j1 (k + 2) r b = some (if b = true ∨ (913 ≤ r ∧ r ≤ 937 ∧ r ≠ 930) ∨ (1040 ≤ r ∧ r ≤ 1071) then wrap64 (r + 32) else if 1024 ≤ r ∧ r ≤ 1039 then wrap64 (r + 80) else r) := fun k r b => by
    simp only [interlocutorref3_Rune.j1]
    rw [in_ok, in_ok, j2a]
    simp only [Option.bind_some, j2a, decide_eq_true_eq]
    repeat' split
    all_goals first
      | rfl
      | (exfalso; simp_all; done)
      | (exfalso; simp_all; omega)
  have j0a : ∀ (k : Nat) (r : Int), -9223372036854775808 ≤ r → r ≤ 9223372036854775807 → interlocutorref3_Rune.j0 (k + 3) r = some (
      if r = 9 ∨ r = 160 ∨ (8192 ≤ r ∧ r ≤ 8202) ∨ r = 8239 ∨ r = 8287 ∨ r = 12288 then 32
      else if (8208 ≤ r ∧ r ≤ 8213) ∨ r = 8722 then 45
      else if r = 8216 ∨ r = 8217 ∨ r = 700 then 39
      else if 1632 ≤ r ∧ r ≤ 1641 then r - 1632 + 48
      else if 1776 ≤ r ∧ r ≤ 1785 then r - 1776 + 48
      else if 2406 ≤ r ∧ r ≤ 2415 then r - 2406 + 48
      else if (65 ≤ r ∧ r ≤ 90) ∨ (192 ≤ r ∧ r ≤ 222 ∧ r ≠ 215) ∨ (913 ≤ r ∧ r ≤ 937 ∧ r ≠ 930) ∨ (1040 ≤ r ∧ r ≤ 1071) then r + 32
      else if 1024 ≤ r ∧ r ≤ 1039 then r + 80
      else r) := fun k r g0 g1 => by
    simp only [interlocutorref3_Rune.j0]
    rw [blank_ok, dash_ok, quote_ok, digit_ok, in_ok, in_ok]
    simp only [Option.bind_some, decide_eq_true_eq, j2a, j1a]
    by_cases c1 : r = 9 ∨ r = 160 ∨ (8192 ≤ r ∧ r ≤ 8202) ∨ r = 8239 ∨ r = 8287 ∨ r = 12288
    · rw [if_pos c1, if_pos c1]
    rw [if_neg c1, if_neg c1]
    by_cases c2 : (8208 ≤ r ∧ r ≤ 8213) ∨ r = 8722
    · rw [if_pos c2, if_pos c2]
    rw [if_neg c2, if_neg c2]
    by_cases c3 : r = 8216 ∨ r = 8217 ∨ r = 700
    · rw [if_pos c3, if_pos c3]
    rw [if_neg c3, if_neg c3]
    by_cases c4 : 1632 ≤ r ∧ r ≤ 1641
    · simp only [if_pos c4]
      rw [if_pos (by omega), wrapIn _ (by omega) (by omega)]
      congr 1
      omega
    simp only [if_neg c4]
    by_cases c5 : 1776 ≤ r ∧ r ≤ 1785
    · simp only [if_pos c5]
      rw [if_pos (by omega), wrapIn _ (by omega) (by omega)]
      congr 1
      omega
    simp only [if_neg c5]
    by_cases c6 : 2406 ≤ r ∧ r ≤ 2415
    · simp only [if_pos c6]
      rw [if_pos (by omega), wrapIn _ (by omega) (by omega)]
      congr 1
      omega
    simp only [if_neg c6]
    rw [if_neg (by omega)]
    by_cases c7 : 65 ≤ r ∧ r ≤ 90
    · rw [if_pos c7, if_pos c7, if_pos (Or.inl c7), wrapIn _ (by omega) (by omega)]
    rw [if_neg c7]
    by_cases c8 : 192 ≤ r ∧ r ≤ 222
    · rw [if_pos c8]
      by_cases c9 : r = 215
      · subst c9; rfl
      · rw [if_pos (.inl (by simpa using c9)), if_pos (.inr (.inl ⟨c8.1, c8.2, c9⟩)), wrapIn _ (by omega) (by omega)]
    rw [if_neg c8]
    by_cases c10 : (913 ≤ r ∧ r ≤ 937 ∧ r ≠ 930) ∨ (1040 ≤ r ∧ r ≤ 1071)
    · rw [if_pos (.inr c10), if_pos (.inr (.inr c10)), wrapIn _ (by omega) (by omega)]
    simp only [Bool.false_eq_true, false_or, if_neg c10]
    rw [if_neg (show ¬ ((65 ≤ r ∧ r ≤ 90) ∨ (192 ≤ r ∧ r ≤ 222 ∧ r ≠ 215) ∨ (913 ≤ r ∧ r ≤ 937 ∧ r ≠ 930) ∨ (1040 ≤ r ∧ r ≤ 1071)) by omega)]
    split
    · rw [wrapIn _ (by omega) (by omega)]
    · rfl
  unfold interlocutorref3_Rune.f
  rw [in_ok]
  simp only [Option.bind_some, decide_eq_true_eq]
  unfold runeP
  simp only []
  by_cases c : 65281 ≤ a ∧ a ≤ 65374
  · rw [if_pos c, wrapIn _ (by omega) (by omega), j0a 6 _ (by omega) (by omega)]
    simp only [if_pos c]
  · rw [if_neg c, j0a 6 _ (by omega) (by omega)]
    simp only [if_neg c]
theorem ref_rune_k (k : Nat) (hk : 9 ≤ k) (a : Int) (h0 : -9223372036854775808 ≤ a) (h1 : a ≤ 9223372036854775807) : interlocutorref3_Rune.f k a = some (runeP a) :=
  at_rounds (fun k => interlocutorref3_Rune.mono a k) hk (ref_rune a h0 h1)
end Go.Proofs.Ytgbnfjhmobeloaa.Plain

namespace Go.Proofs.Ytgbnfjhmobeloaa.Plain
open Go.RowKit Go.Proofs.Ytgbnfjhmobeloaa.G Go.Proofs.YtgbnfjhmobeloaaW.PrintWords Go.Proofs.YtgbnfjhmobeloaaW.PrintLast Go.Proofs.YtgbnfjhmobeloaaW.PrintMore
set_option linter.unusedVariables false
set_option linter.unusedSimpArgs false
def ctn (t : List Int) (k : Nat) : Bool := match t[k]? with | some b => b / 64 == 2 | none => false
def decL (l : List Int) : Int × Nat :=
  let b0 := l.getD 0 0
  if b0 < 128 then (b0, 1)
  else if b0 / 32 = 6 ∧ ctn l 1 = true then
    let c := b0 % 32 * 64 + l.getD 1 0 % 64
    if 128 ≤ c then (c, 2) else (65533, 1)
  else if b0 / 16 = 14 ∧ ctn l 1 = true ∧ ctn l 2 = true then
    let c := b0 % 16 * 4096 + l.getD 1 0 % 64 * 64 + l.getD 2 0 % 64
    if 2048 ≤ c ∧ ¬ (55296 ≤ c ∧ c ≤ 57343) then (c, 3) else (65533, 1)
  else if b0 / 8 = 30 ∧ ctn l 1 = true ∧ ctn l 2 = true ∧ ctn l 3 = true then
    let c := b0 % 8 * 262144 + l.getD 1 0 % 64 * 4096 + l.getD 2 0 % 64 * 64 + l.getD 3 0 % 64
    if 65536 ≤ c ∧ c ≤ 1114111 then (c, 4) else (65533, 1)
  else (65533, 1)
theorem get_bytes (s : ByteArray) (i : Nat) (h : i < s.size) : ((s.get! i).toNat : Int) = (bytesOf s).getD i 0 := by
  have h' : i < s.data.toList.length := by rw [data_length]; exact h
  unfold bytesOf
  rw [List.getD_eq_getElem?_getD, List.getElem?_map, List.getElem?_eq_getElem h']
  simp only [Option.map_some, Option.getD_some]
  congr 2
  have hs : i < s.data.size := by simpa using h'
  simp only [ByteArray.get!]
  rw [getElem!_pos s.data i hs]
  rfl
theorem byte_range (s : ByteArray) : ∀ x ∈ bytesOf s, 0 ≤ x ∧ x ≤ 255 := by
  intro x hx
  unfold bytesOf at hx
  obtain ⟨b, _, rfl⟩ := List.mem_map.1 hx
  have := b.toNat_lt
  omega
theorem getD_drop (l : List Int) (i k : Nat) : (l.drop i).getD k 0 = l.getD (i + k) 0 := by
  rw [List.getD_eq_getElem?_getD, List.getD_eq_getElem?_getD, List.getElem?_drop]
theorem getD_range (l : List Int) (h : ∀ x ∈ l, 0 ≤ x ∧ x ≤ 255) (k : Nat) : 0 ≤ l.getD k 0 ∧ l.getD k 0 ≤ 255 := by
  rw [List.getD_eq_getElem?_getD]
  rcases Nat.lt_or_ge k l.length with hk | hk
  · rw [List.getElem?_eq_getElem hk]
    exact h _ (List.getElem_mem hk)
  · rw [List.getElem?_eq_none hk]
    simp
theorem ctn_iff (l : List Int) (k : Nat) : ctn l k = true ↔ k < l.length ∧ l.getD k 0 / 64 = 2 := by
  unfold ctn
  rw [List.getD_eq_getElem?_getD]
  rcases Nat.lt_or_ge k l.length with hk | hk
  · rw [List.getElem?_eq_getElem hk]
    simp [hk]
  · rw [List.getElem?_eq_none hk]
    first | (simp; done) | (simp; omega)
theorem decode_core (n0 n1 n2 n3 : Nat) (k1 k2 k3 : Bool) (a0 a1 a2 a3 : Int) (e0 : (n0 : Int) = a0) (g1 : k1 = true → (n1 : Int) = a1) (g2 : k2 = true → (n2 : Int) = a2) (g3 : k3 = true → (n3 : Int) = a3) (r0 : 0 ≤ a0 ∧ a0 ≤ 255) (r1 : 0 ≤ a1 ∧ a1 ≤ 255) (r2 : 0 ≤ a2 ∧ a2 ≤ 255) (r3 : 0 ≤ a3 ∧ a3 ≤ 255)
    (p : Nat × Nat) (q : Int × Nat)
    (hp : p = if n0 < 128 then (n0, 1) else if (n0 / 32 == 6 && k1) = true then (if 128 ≤ n0 % 32 * 64 + n1 % 64 then (n0 % 32 * 64 + n1 % 64, 2) else (Utf8.runeError, 1)) else if (n0 / 16 == 14 && k1 && k2) = true then (if (decide (2048 ≤ n0 % 16 * 4096 + n1 % 64 * 64 + n2 % 64) && Utf8.valid ((n0 % 16 * 4096 + n1 % 64 * 64 + n2 % 64 : Nat) : Int)) = true then (n0 % 16 * 4096 + n1 % 64 * 64 + n2 % 64, 3) else (Utf8.runeError, 1)) else if (n0 / 8 == 30 && k1 && k2 && k3) = true then (if (decide (65536 ≤ n0 % 8 * 262144 + n1 % 64 * 4096 + n2 % 64 * 64 + n3 % 64) && Utf8.valid ((n0 % 8 * 262144 + n1 % 64 * 4096 + n2 % 64 * 64 + n3 % 64 : Nat) : Int)) = true then (n0 % 8 * 262144 + n1 % 64 * 4096 + n2 % 64 * 64 + n3 % 64, 4) else (Utf8.runeError, 1)) else (Utf8.runeError, 1))
    (hq : q = if a0 < 128 then (a0, 1) else if a0 / 32 = 6 ∧ k1 = true then (if 128 ≤ a0 % 32 * 64 + a1 % 64 then (a0 % 32 * 64 + a1 % 64, 2) else (65533, 1)) else if a0 / 16 = 14 ∧ k1 = true ∧ k2 = true then (if 2048 ≤ a0 % 16 * 4096 + a1 % 64 * 64 + a2 % 64 ∧ ¬ (55296 ≤ a0 % 16 * 4096 + a1 % 64 * 64 + a2 % 64 ∧ a0 % 16 * 4096 + a1 % 64 * 64 + a2 % 64 ≤ 57343) then (a0 % 16 * 4096 + a1 % 64 * 64 + a2 % 64, 3) else (65533, 1)) else if a0 / 8 = 30 ∧ k1 = true ∧ k2 = true ∧ k3 = true then (if 65536 ≤ a0 % 8 * 262144 + a1 % 64 * 4096 + a2 % 64 * 64 + a3 % 64 ∧ a0 % 8 * 262144 + a1 % 64 * 4096 + a2 % 64 * 64 + a3 % 64 ≤ 1114111 then (a0 % 8 * 262144 + a1 % 64 * 4096 + a2 % 64 * 64 + a3 % 64, 4) else (65533, 1)) else (65533, 1)) :
    (p.1 : Int) = q.1 ∧ p.2 = q.2 := by
  by_cases c1 : n0 < 128
  · rw [if_pos c1] at hp
    rw [if_pos (by omega)] at hq
    rw [hp, hq]
    exact ⟨e0, rfl⟩
  rw [if_neg c1] at hp
  rw [if_neg (by omega)] at hq
  by_cases c2 : a0 / 32 = 6 ∧ k1 = true
  · have h1 := g1 c2.2
    rw [if_pos c2] at hq
    rw [if_pos (by rw [c2.2, Bool.and_true, beq_iff_eq]; omega)] at hp
    by_cases c3 : 128 ≤ a0 % 32 * 64 + a1 % 64
    · rw [if_pos c3] at hq
      rw [if_pos (by omega)] at hp
      rw [hp, hq]
      exact ⟨by simp only []; omega, rfl⟩
    · rw [if_neg c3] at hq
      rw [if_neg (by omega)] at hp
      rw [hp, hq]
      exact ⟨rfl, rfl⟩
  rw [if_neg c2] at hq
  rw [if_neg (by rw [Bool.and_eq_true, beq_iff_eq]; intro hh; exact c2 ⟨by omega, hh.2⟩)] at hp
  by_cases c4 : a0 / 16 = 14 ∧ k1 = true ∧ k2 = true
  · have h1 := g1 c4.2.1
    have h2 := g2 c4.2.2
    rw [if_pos c4] at hq
    rw [if_pos (by rw [c4.2.1, c4.2.2, Bool.and_true, Bool.and_true, beq_iff_eq]; omega)] at hp
    unfold Utf8.valid Utf8.runeError at hp
    by_cases c5 : 2048 ≤ a0 % 16 * 4096 + a1 % 64 * 64 + a2 % 64 ∧ ¬ (55296 ≤ a0 % 16 * 4096 + a1 % 64 * 64 + a2 % 64 ∧ a0 % 16 * 4096 + a1 % 64 * 64 + a2 % 64 ≤ 57343)
    · rw [if_pos c5] at hq
      rw [if_pos (by simp only [Bool.and_eq_true, Bool.or_eq_true, decide_eq_true_eq]; omega)] at hp
      rw [hp, hq]
      exact ⟨by simp only []; omega, rfl⟩
    · rw [if_neg c5] at hq
      rw [if_neg (by simp only [Bool.and_eq_true, Bool.or_eq_true, decide_eq_true_eq]; omega)] at hp
      rw [hp, hq]
      exact ⟨rfl, rfl⟩
  rw [if_neg c4] at hq
  rw [if_neg (by simp only [Bool.and_eq_true, beq_iff_eq]; intro hh; exact c4 ⟨by omega, hh.1.2, hh.2⟩)] at hp
  by_cases c6 : a0 / 8 = 30 ∧ k1 = true ∧ k2 = true ∧ k3 = true
  · have h1 := g1 c6.2.1
    have h2 := g2 c6.2.2.1
    have h3 := g3 c6.2.2.2
    rw [if_pos c6] at hq
    rw [if_pos (by rw [c6.2.1, c6.2.2.1, c6.2.2.2, Bool.and_true, Bool.and_true, Bool.and_true, beq_iff_eq]; omega)] at hp
    unfold Utf8.valid Utf8.runeError at hp
    by_cases c7 : 65536 ≤ a0 % 8 * 262144 + a1 % 64 * 4096 + a2 % 64 * 64 + a3 % 64 ∧ a0 % 8 * 262144 + a1 % 64 * 4096 + a2 % 64 * 64 + a3 % 64 ≤ 1114111
    · rw [if_pos c7] at hq
      rw [if_pos (by simp only [Bool.and_eq_true, Bool.or_eq_true, decide_eq_true_eq]; omega)] at hp
      rw [hp, hq]
      exact ⟨by simp only []; omega, rfl⟩
    · rw [if_neg c7] at hq
      rw [if_neg (by simp only [Bool.and_eq_true, Bool.or_eq_true, decide_eq_true_eq]; omega)] at hp
      rw [hp, hq]
      exact ⟨rfl, rfl⟩
  rw [if_neg c6] at hq
  rw [if_neg (by simp only [Bool.and_eq_true, beq_iff_eq]; intro hh; exact c6 ⟨by omega, hh.1.1.2, hh.1.2, hh.2⟩)] at hp
  rw [hp, hq]
  exact ⟨rfl, rfl⟩
theorem decode_eq (s : ByteArray) (pos : Nat) (h : pos < s.size) : ((Utf8.decode s pos).1 : Int) = (decL ((bytesOf s).drop pos)).1 ∧ (Utf8.decode s pos).2 = (decL ((bytesOf s).drop pos)).2 := by
  have hl := bytesOf_length s
  have hb := byte_range s
  have e0 : ((s.get! (pos + 0)).toNat : Int) = ((bytesOf s).drop pos).getD 0 0 := by rw [getD_drop]; exact get_bytes s _ (by omega)
  have hc : ∀ k : Nat, (decide (pos + k < s.size) && (s.get! (pos + k)).toNat / 64 == 2) = ctn ((bytesOf s).drop pos) k := by
    intro k
    rw [Bool.eq_iff_iff, ctn_iff, List.length_drop, hl, getD_drop]
    simp only [Bool.and_eq_true, decide_eq_true_eq, beq_iff_eq]
    constructor
    · rintro ⟨h1, h2⟩
      refine ⟨by omega, ?_⟩
      rw [← get_bytes s (pos + k) h1]
      omega
    · rintro ⟨h1, h2⟩
      refine ⟨by omega, ?_⟩
      rw [← get_bytes s (pos + k) (by omega)] at h2
      omega
  have hg : ∀ k : Nat, ctn ((bytesOf s).drop pos) k = true → ((s.get! (pos + k)).toNat : Int) = ((bytesOf s).drop pos).getD k 0 := by
    intro k hk
    rw [ctn_iff, List.length_drop, hl] at hk
    rw [getD_drop]
    exact get_bytes s _ (by omega)
  have hr := fun k => getD_range ((bytesOf s).drop pos) (fun x hx => hb x (List.mem_of_mem_drop hx)) k
  have r0 := hr 0
  have r1 := hr 1
  have r2 := hr 2
  have r3 := hr 3
  exact decode_core (s.get! (pos + 0)).toNat (s.get! (pos + 1)).toNat (s.get! (pos + 2)).toNat (s.get! (pos + 3)).toNat _ _ _ _ _ _ _ e0 (hg 1) (hg 2) (hg 3) r0 r1 r2 r3 _ _ (by simp only [Utf8.decode, hc, ge_iff_le]) (by simp only [decL])
end Go.Proofs.Ytgbnfjhmobeloaa.Plain

namespace Go.Proofs.Ytgbnfjhmobeloaa.Plain
open Go.RowKit Go.Proofs.Ytgbnfjhmobeloaa.G Go.Proofs.YtgbnfjhmobeloaaW.PrintWords Go.Proofs.YtgbnfjhmobeloaaW.PrintLast Go.Proofs.YtgbnfjhmobeloaaW.PrintMore
set_option linter.unusedVariables false
set_option linter.unusedSimpArgs false
theorem decL_len (l : List Int) (h : 0 < l.length) : 1 ≤ (decL l).2 ∧ (decL l).2 ≤ 4 ∧ (decL l).2 ≤ l.length := by
  unfold decL
  simp only []
  split
  · exact ⟨by simp, by simp, by simp only []; omega⟩
  · split
    · rename_i hc
      rw [ctn_iff] at hc
      split
      · exact ⟨by simp, by simp, by simp only []; omega⟩
      · exact ⟨by simp, by simp, by simp only []; omega⟩
    · split
      · rename_i hc
        rw [ctn_iff, ctn_iff] at hc
        split
        · exact ⟨by simp, by simp, by simp only []; omega⟩
        · exact ⟨by simp, by simp, by simp only []; omega⟩
      · split
        · rename_i hc
          rw [ctn_iff, ctn_iff, ctn_iff] at hc
          split
          · exact ⟨by simp, by simp, by simp only []; omega⟩
          · exact ⟨by simp, by simp, by simp only []; omega⟩
        · exact ⟨by simp, by simp, by simp only []; omega⟩
def Sign (r : Int) : Prop := 0 ≤ r ∧ r ≤ 1114111 ∧ ¬ (55296 ≤ r ∧ r ≤ 57343)
theorem decL_sign (l : List Int) (hb : ∀ x ∈ l, 0 ≤ x ∧ x ≤ 255) : Sign (decL l).1 := by
  have r0 := getD_range l hb 0
  have r1 := getD_range l hb 1
  have r2 := getD_range l hb 2
  unfold decL Sign
  simp only []
  split
  · simp only []; omega
  · split
    · split <;> (simp only []; omega)
    · split
      · split <;> (simp only []; omega)
      · split
        · split <;> (simp only []; omega)
        · simp only []; omega
def sgn : Nat → List Int → Int → List (Int × Int)
  | 0, _, _ => []
  | f + 1, l, p => if 0 < l.length then (p, (decL l).1) :: sgn f (l.drop (decL l).2) (p + (decL l).2) else []
def sgnOf (s : ByteArray) : List (Int × Int) := sgn s.size (bytesOf s) 0
theorem signs_eq (s : ByteArray) : ∀ (f pos : Nat), (signsFrom s f pos).map (fun p => ((p.1 : Int), (p.2 : Int))) = sgn f ((bytesOf s).drop pos) pos := by
  intro f
  induction f with
  | zero => intro pos; rfl
  | succ f ih =>
    intro pos
    have hl := bytesOf_length s
    simp only [signsFrom, sgn]
    by_cases h : pos < s.size
    · rw [if_pos h, if_pos (by rw [List.length_drop]; omega)]
      obtain ⟨e1, e2⟩ := decode_eq s pos h
      rw [List.map_cons, ih, e2, List.drop_drop]
      simp only [e1]
      rw [show ((pos + (decL ((bytesOf s).drop pos)).2 : Nat) : Int) = (pos : Int) + ((decL ((bytesOf s).drop pos)).2 : Int) by omega]
    · rw [if_neg h, if_neg (by rw [List.length_drop]; omega)]
      rfl
theorem fold_eq (s : ByteArray) (h : s.size < 17592186044415) : fold_Fold.f s = some ((sgnOf s).map (fun p => runeP p.2), (sgnOf s).map (fun p => p.1) ++ [(s.size : Int)]) := by
  unfold fold_Fold.f
  rw [if_pos h]
  have e := signs_eq s s.size 0
  rw [List.drop_zero] at e
  unfold signsOf sgnOf
  rw [show ((0 : Nat) : Int) = 0 from rfl] at e
  rw [← e, List.map_map, List.map_map]
  rfl
theorem bt_getD (s : ByteArray) (i : Nat) : bt s (i : Int) = (bytesOf s).getD i 0 := by
  rw [← rd_bytesOf]
  unfold rd
  rfl
theorem size_ok (c : Int) (h0 : 0 ≤ c) (h1 : c ≤ 255) : interlocutorref3_size.f 5 c = some (if c < 128 then 1 else if 194 ≤ c ∧ c ≤ 223 then 2 else if 224 ≤ c ∧ c ≤ 239 then 3 else if 240 ≤ c ∧ c ≤ 244 then 4 else 0) := by
  have j1 : ∀ (k : Nat) (b : Bool), interlocutorref3_size.j1 (k + 1) c b = some (if b = true then 3 else if 240 ≤ c ∧ c ≤ 244 then 4 else 0) := fun k b => by
    simp only [interlocutorref3_size.j1]
    repeat' split
    all_goals first | rfl | (exfalso; omega)
  have j0 : ∀ (k : Nat) (b : Bool), interlocutorref3_size.j0 (k + 2) c b = some (if b = true then 2 else if 224 ≤ c ∧ c ≤ 239 then 3 else if 240 ≤ c ∧ c ≤ 244 then 4 else 0) := fun k b => by
    simp only [interlocutorref3_size.j0, j1, decide_eq_true_eq]
    repeat' split
    all_goals first | rfl | (exfalso; first | omega | simp_all) 
  unfold interlocutorref3_size.f
  rw [j0, j0]
  simp only [decide_eq_true_eq]
  repeat' split
  all_goals first | rfl | (exfalso; first | omega | simp_all)
theorem i64_small (n : Int) (h0 : 0 ≤ n) (h1 : n < 2 ^ 62) : IntKind.i64.wrap n = n := by rw [IntKind.wrap_i64]; omega
theorem and_i64 (x : Int) (h0 : 0 ≤ x) (h1 : x < 4611686018427387904) : Go.bits .and .i64 x 63 = x % 64 ∧ Go.bits .and .i64 x 31 = x % 32 ∧ Go.bits .and .i64 x 15 = x % 16 ∧ Go.bits .and .i64 x 7 = x % 8 :=
  ⟨bits_mask .i64 62 (by decide) i64_small 6 (by decide) x h0 h1, bits_mask .i64 62 (by decide) i64_small 5 (by decide) x h0 h1, bits_mask .i64 62 (by decide) i64_small 4 (by decide) x h0 h1, bits_mask .i64 62 (by decide) i64_small 3 (by decide) x h0 h1⟩
theorem or_i64 (x y : Int) (h0 : 0 ≤ x) (h1 : x < 4611686018427387904) (hx : x % 64 = 0) (h2 : 0 ≤ y) (h3 : y < 64) : Go.bits .or .i64 x y = x + y :=
  bits_join .i64 62 (by decide) i64_small 6 x y h0 hx h1 h2 h3 (by omega)
theorem next_step (s : ByteArray) (n x : Int) (i k : Nat) (hi : (i : Int) < n) (his : i < s.size) (hs : s.size ≤ 4611686018427387904) (h0 : 0 ≤ x) (h1 : x < 1099511627776) :
    interlocutorref3_next.l0 (k + 1) s n x (i : Int) = if (bytesOf s).getD i 0 / 64 = 2 then interlocutorref3_next.l0 k s n (x * 64 + (bytesOf s).getD i 0 % 64) ((i + 1 : Nat) : Int) else some (65533, 1) := by
  have hb := getD_range (bytesOf s) (byte_range s) i
  simp only [interlocutorref3_next.l0]
  rw [if_pos hi, if_pos (by omega), if_pos (by omega), bt_getD]
  generalize (bytesOf s).getD i 0 = b at hb ⊢
  by_cases c1 : b < 128
  · rw [if_pos c1, if_neg (by omega)]
  · rw [if_neg c1]
    by_cases c2 : b > 191
    · rw [if_pos c2, if_neg (by omega)]
    · rw [if_neg c2, if_pos (by omega), wrapIn (x * 64) (by omega) (by omega), wrapIn b (by omega) (by omega), (and_i64 b (by omega) (by omega)).1, or_i64 _ _ (by omega) (by omega) (by omega) (by omega) (by omega), wrapIn _ (by omega) (by omega)]
      rfl
theorem next_end (s : ByteArray) (n x : Int) (k : Nat) :
    interlocutorref3_next.l0 (k + 1) s n x n = if n = 3 then (if x < 2048 ∨ (55296 ≤ x ∧ x ≤ 57343) then some (65533, 1) else some (x, 3)) else if n = 4 then (if x < 65536 ∨ x > 1114111 then some (65533, 1) else some (x, 4)) else some (x, n) := by
  simp only [interlocutorref3_next.l0]
  rw [if_neg (by omega), in_ok]
  simp only [Option.bind_some, decide_eq_true_eq]
  by_cases c3 : n = 3
  · subst c3
    rw [if_pos rfl, if_pos rfl]
    by_cases c : x < 2048
    · rw [if_pos c, if_pos (.inl c)]
    · rw [if_neg c]
      by_cases c' : 55296 ≤ x ∧ x ≤ 57343
      · rw [if_pos c', if_pos (.inr c')]
      · rw [if_neg c', if_neg (by omega), if_neg (by omega)]
  · rw [if_neg c3, if_neg c3]
    by_cases c4 : n = 4
    · subst c4
      rw [if_pos rfl, if_pos rfl]
      by_cases c : x < 65536
      · rw [if_pos c, if_pos (.inl c)]
      · rw [if_neg c]
        by_cases c' : x > 1114111
        · rw [if_pos c', if_pos (.inr c')]
        · rw [if_neg c', if_neg (by omega)]
    · rw [if_neg c4, if_neg c4]
theorem next_j0 (s : ByteArray) (n m : Int) (k : Nat) (h : 0 < s.size) (hn : (n = 2 ∧ m = 32) ∨ (n = 3 ∧ m = 16) ∨ (n = 4 ∧ m = 8)) : interlocutorref3_next.j0 (k + 1) s n false = interlocutorref3_next.l0 k s n ((bytesOf s).getD 0 0 % m) 1 := by
  have hb := getD_range (bytesOf s) (byte_range s) 0
  simp only [interlocutorref3_next.j0]
  rw [if_neg (by simp), if_pos (by omega), show bt s 0 = (bytesOf s).getD 0 0 from bt_getD s 0]
  generalize (bytesOf s).getD 0 0 = b at hb ⊢
  rw [wrapIn b (by omega) (by omega)]
  have h3 := and_i64 b (by omega) (by omega)
  rcases hn with ⟨rfl, rfl⟩ | ⟨rfl, rfl⟩ | ⟨rfl, rfl⟩
  · rw [if_pos (by decide +kernel), show shr .i64 255 (IntKind.u64.wrap (wrap64 (2 + 1))) = 31 by decide +kernel, h3.2.1]
  · rw [if_pos (by decide +kernel), show shr .i64 255 (IntKind.u64.wrap (wrap64 (3 + 1))) = 15 by decide +kernel, h3.2.2.1]
  · rw [if_pos (by decide +kernel), show shr .i64 255 (IntKind.u64.wrap (wrap64 (4 + 1))) = 7 by decide +kernel, h3.2.2.2]
theorem next_ok (s : ByteArray) (h : 0 < s.size) (hs : s.size ≤ 4611686018427387904) : interlocutorref3_next.f 12 s = some ((decL (bytesOf s)).1, ((decL (bytesOf s)).2 : Int)) := by
  have hl := bytesOf_length s
  have r0 := getD_range (bytesOf s) (byte_range s) 0
  have r1 := getD_range (bytesOf s) (byte_range s) 1
  have r2 := getD_range (bytesOf s) (byte_range s) 2
  have r3 := getD_range (bytesOf s) (byte_range s) 3
  unfold interlocutorref3_next.f
  rw [if_pos (by omega), show bt s 0 = (bytesOf s).getD 0 0 from bt_getD s 0, at_rounds (fun k => interlocutorref3_size.mono _ k) (show 5 ≤ 12 by omega) (size_ok _ r0.1 r0.2)]
  simp only [Option.bind_some]
  have s1 : ∀ (n x : Int) (k : Nat), 1 < n → 1 < s.size → 0 ≤ x → x < 1099511627776 → interlocutorref3_next.l0 (k + 1) s n x 1 = if (bytesOf s).getD 1 0 / 64 = 2 then interlocutorref3_next.l0 k s n (x * 64 + (bytesOf s).getD 1 0 % 64) 2 else some (65533, 1) := fun n x k a b c d => next_step s n x 1 k a b hs c d
  have s2 : ∀ (n x : Int) (k : Nat), 2 < n → 2 < s.size → 0 ≤ x → x < 1099511627776 → interlocutorref3_next.l0 (k + 1) s n x 2 = if (bytesOf s).getD 2 0 / 64 = 2 then interlocutorref3_next.l0 k s n (x * 64 + (bytesOf s).getD 2 0 % 64) 3 else some (65533, 1) := fun n x k a b c d => next_step s n x 2 k a b hs c d
  have s3 : ∀ (n x : Int) (k : Nat), 3 < n → 3 < s.size → 0 ≤ x → x < 1099511627776 → interlocutorref3_next.l0 (k + 1) s n x 3 = if (bytesOf s).getD 3 0 / 64 = 2 then interlocutorref3_next.l0 k s n (x * 64 + (bytesOf s).getD 3 0 % 64) 4 else some (65533, 1) := fun n x k a b c d => next_step s n x 3 k a b hs c d
  have bad : ∀ (n : Int), interlocutorref3_next.j0 12 s n true = some (65533, 1) := fun n => by simp only [interlocutorref3_next.j0]; rw [if_pos trivial]
  unfold decL
  simp only [ctn_iff, hl]
  generalize (bytesOf s).getD 1 0 = b1 at *
  generalize (bytesOf s).getD 2 0 = b2 at *
  generalize (bytesOf s).getD 3 0 = b3 at *
  have j0 := fun n m k hn => next_j0 s n m k h hn
  generalize (bytesOf s).getD 0 0 = b0 at *
  by_cases c1 : b0 < 128
  · rw [if_pos c1, if_pos rfl, wrapIn _ (by omega) (by omega), if_pos c1]
    rfl
  rw [if_neg c1, if_neg c1]
  by_cases c2 : 194 ≤ b0 ∧ b0 ≤ 223
  · rw [if_pos c2, if_neg (by omega), if_neg (by omega)]
    by_cases cs : s.size < 2
    · rw [decide_eq_true (by omega), bad, if_neg (by omega), if_neg (by omega), if_neg (by omega)]
      rfl
    · rw [decide_eq_false (by omega), j0 2 32 11 (.inl ⟨rfl, rfl⟩), s1 _ _ _ (by omega) (by omega) (by omega) (by omega)]
      by_cases cc : b1 / 64 = 2
      · rw [if_pos cc, next_end, if_neg (show ¬ (2 : Int) = 3 by omega), if_neg (show ¬ (2 : Int) = 4 by omega), if_pos (by omega), if_pos (by omega)]
        rfl
      · rw [if_neg cc, if_neg (by omega), if_neg (by omega), if_neg (by omega)]
        rfl
  rw [if_neg c2]
  by_cases c3 : 224 ≤ b0 ∧ b0 ≤ 239
  · rw [if_pos c3, if_neg (by omega), if_neg (by omega)]
    by_cases cs : s.size < 3
    · rw [decide_eq_true (by omega), bad, if_neg (by omega), if_neg (by omega), if_neg (by omega)]
      rfl
    · rw [decide_eq_false (by omega), j0 3 16 11 (.inr (.inl ⟨rfl, rfl⟩)), s1 _ _ _ (by omega) (by omega) (by omega) (by omega), s2 _ _ _ (by omega) (by omega) (by omega) (by omega)]
      by_cases cc : b1 / 64 = 2
      · rw [if_pos cc]
        by_cases cd : b2 / 64 = 2
        · rw [if_pos cd, next_end, if_pos rfl, if_neg (show ¬ (b0 / 32 = 6 ∧ 1 < s.size ∧ b1 / 64 = 2) by omega), if_pos (show b0 / 16 = 14 ∧ (1 < s.size ∧ b1 / 64 = 2) ∧ 2 < s.size ∧ b2 / 64 = 2 by omega), show (b0 % 16 * 64 + b1 % 64) * 64 + b2 % 64 = b0 % 16 * 4096 + b1 % 64 * 64 + b2 % 64 by omega]
          by_cases ce : b0 % 16 * 4096 + b1 % 64 * 64 + b2 % 64 < 2048 ∨ (55296 ≤ b0 % 16 * 4096 + b1 % 64 * 64 + b2 % 64 ∧ b0 % 16 * 4096 + b1 % 64 * 64 + b2 % 64 ≤ 57343)
          · rw [if_pos ce, if_neg (by omega)]
            rfl
          · rw [if_neg ce, if_pos (by omega)]
            rfl
        · rw [if_neg cd, if_neg (by omega), if_neg (by omega), if_neg (by omega)]
          rfl
      · rw [if_neg cc, if_neg (by omega), if_neg (by omega), if_neg (by omega)]
        rfl
  rw [if_neg c3]
  by_cases c4 : 240 ≤ b0 ∧ b0 ≤ 244
  · rw [if_pos c4, if_neg (by omega), if_neg (by omega)]
    by_cases cs : s.size < 4
    · rw [decide_eq_true (by omega), bad, if_neg (by omega), if_neg (by omega), if_neg (by omega)]
      rfl
    · rw [decide_eq_false (by omega), j0 4 8 11 (.inr (.inr ⟨rfl, rfl⟩)), s1 _ _ _ (by omega) (by omega) (by omega) (by omega), s2 _ _ _ (by omega) (by omega) (by omega) (by omega), s3 _ _ _ (by omega) (by omega) (by omega) (by omega)]
      by_cases cc : b1 / 64 = 2
      · rw [if_pos cc]
        by_cases cd : b2 / 64 = 2
        · rw [if_pos cd]
          by_cases ce : b3 / 64 = 2
          · rw [if_pos ce, next_end, if_neg (show ¬ (4 : Int) = 3 by omega), if_pos rfl, if_neg (show ¬ (b0 / 32 = 6 ∧ 1 < s.size ∧ b1 / 64 = 2) by omega), if_neg (show ¬ (b0 / 16 = 14 ∧ (1 < s.size ∧ b1 / 64 = 2) ∧ 2 < s.size ∧ b2 / 64 = 2) by omega), if_pos (show b0 / 8 = 30 ∧ (1 < s.size ∧ b1 / 64 = 2) ∧ (2 < s.size ∧ b2 / 64 = 2) ∧ 3 < s.size ∧ b3 / 64 = 2 by omega), show ((b0 % 8 * 64 + b1 % 64) * 64 + b2 % 64) * 64 + b3 % 64 = b0 % 8 * 262144 + b1 % 64 * 4096 + b2 % 64 * 64 + b3 % 64 by omega]
            by_cases cf : b0 % 8 * 262144 + b1 % 64 * 4096 + b2 % 64 * 64 + b3 % 64 < 65536 ∨ b0 % 8 * 262144 + b1 % 64 * 4096 + b2 % 64 * 64 + b3 % 64 > 1114111
            · rw [if_pos cf, if_neg (by omega)]
              rfl
            · rw [if_neg cf, if_pos (by omega)]
              rfl
          · rw [if_neg ce, if_neg (by omega), if_neg (by omega), if_neg (by omega)]
            rfl
        · rw [if_neg cd, if_neg (by omega), if_neg (by omega), if_neg (by omega)]
          rfl
      · rw [if_neg cc, if_neg (by omega), if_neg (by omega), if_neg (by omega)]
        rfl
  rw [if_neg c4, if_neg (by omega), if_pos rfl, bad]
  by_cases c5 : b0 / 32 = 6 ∧ 1 < s.size ∧ b1 / 64 = 2
  · rw [if_pos c5, if_neg (by omega)]
    rfl
  · rw [if_neg c5, if_neg (by omega)]
    by_cases c6 : b0 / 8 = 30 ∧ (1 < s.size ∧ b1 / 64 = 2) ∧ (2 < s.size ∧ b2 / 64 = 2) ∧ 3 < s.size ∧ b3 / 64 = 2
    · rw [if_pos c6, if_neg (by omega)]
      rfl
    · rw [if_neg c6]
      rfl
theorem bytes_extract (s : ByteArray) (i : Nat) : bytesOf (s.extract i s.size) = (bytesOf s).drop i := by
  unfold bytesOf
  rw [← List.map_drop]
  congr 1
  simp only [ByteArray.data_extract, Array.toList_extract, List.extract_eq_take_drop]
  exact List.take_of_length_le (by rw [List.length_drop, data_length]; omega)
theorem ref_fold_loop (s : ByteArray) (hs : s.size < 17592186044415) : ∀ (d k f i : Nat) (x4 x5 : List Int), s.size - i ≤ d → i ≤ s.size → d + 20 < k → s.size - i ≤ f → x4.length ≤ i → x5.length ≤ i →
    interlocutorref3_Fold.l0 k s x4 x5 (i : Int) = some (x4 ++ (sgn f ((bytesOf s).drop i) i).map (fun p => runeP p.2), x5 ++ (sgn f ((bytesOf s).drop i) i).map (fun p => p.1) ++ [(s.size : Int)]) := by
  intro d
  have hl := bytesOf_length s
  induction d with
  | zero =>
    intro k f i x4 x5 hd hi hk hf h4 h5
    obtain ⟨k, rfl⟩ : ∃ m, k = m + 1 := ⟨k - 1, by omega⟩
    simp only [interlocutorref3_Fold.l0]
    rw [if_neg (by omega), if_pos (by omega)]
    have : (bytesOf s).drop i = [] := List.drop_eq_nil_of_le (by omega)
    rw [this]
    cases f <;> simp [sgn]
  | succ d ih =>
    intro k f i x4 x5 hd hi hk hf h4 h5
    obtain ⟨k, rfl⟩ : ∃ m, k = m + 1 := ⟨k - 1, by omega⟩
    by_cases hlt : i < s.size
    · obtain ⟨f, rfl⟩ : ∃ m, f = m + 1 := ⟨f - 1, by omega⟩
      simp only [interlocutorref3_Fold.l0, sgn]
      have hne : 0 < ((bytesOf s).drop i).length := by rw [List.length_drop]; omega
      rw [if_pos (by omega), if_pos (by omega), if_pos (by omega), Int.toNat_natCast, if_pos hne]
      have hsz : (s.extract i s.size).size = s.size - i := by rw [ByteArray.size_extract]; omega
      rw [at_rounds (fun k => interlocutorref3_next.mono _ k) (show 12 ≤ k by omega) (next_ok (s.extract i s.size) (by omega) (by omega)), bytes_extract]
      have hw := decL_len _ hne
      have hsg := decL_sign ((bytesOf s).drop i) (fun x hx => byte_range s x (List.mem_of_mem_drop hx))
      rw [List.length_drop] at hw
      generalize hq : decL ((bytesOf s).drop i) = q at *
      obtain ⟨r, wd⟩ := q
      simp only [Sign] at hsg hw
      simp only [Option.bind_some]
      rw [ref_rune_k k (by omega) r (by omega) (by omega)]
      simp only [Option.bind_some]
      rw [if_pos (by omega), if_pos (by omega), wrapIn _ (by omega) (by omega), show (i : Int) + (wd : Int) = ((i + wd : Nat) : Int) by omega]
      rw [ih k f (i + wd) _ _ (by omega) (by omega) (by omega) (by omega) (by simp; omega) (by simp; omega), List.drop_drop]
      simp [List.append_assoc]
    · simp only [interlocutorref3_Fold.l0]
      rw [if_neg (by omega), if_pos (by omega)]
      have : (bytesOf s).drop i = [] := List.drop_eq_nil_of_le (by omega)
      rw [this]
      cases f <;> simp [sgn]
theorem ref_fold (s : ByteArray) (hs : s.size < 17592186044415) (k : Nat) (hk : s.size + 20 < k) : interlocutorref3_Fold.f k s = some ((sgnOf s).map (fun p => runeP p.2), (sgnOf s).map (fun p => p.1) ++ [(s.size : Int)]) := by
  unfold interlocutorref3_Fold.f
  have := ref_fold_loop s hs s.size k s.size 0 [] [] (by omega) (by omega) hk (by omega) (by simp) (by simp)
  rw [List.drop_zero] at this
  simpa [sgnOf] using this
end Go.Proofs.Ytgbnfjhmobeloaa.Plain

namespace Go.Proofs.Ytgbnfjhmobeloaa.Plain
open Go.RowKit Go.Proofs.Ytgbnfjhmobeloaa.G Go.Proofs.YtgbnfjhmobeloaaW.PrintWords Go.Proofs.YtgbnfjhmobeloaaW.PrintLast Go.Proofs.YtgbnfjhmobeloaaW.PrintMore
set_option linter.unusedVariables false
set_option linter.unusedSimpArgs false
def runesOf (s : ByteArray) : List Int := (sgnOf s).map fun p => runeP p.2
theorem ref_fold6 (s : ByteArray) (hs : s.size < 17592186044415) (k : Nat) (hk : s.size + 20 < k) : ∃ o, interlocutorref3_Fold.f k s = some (runesOf s, o) := ⟨_, ref_fold s hs k hk⟩
end Go.Proofs.Ytgbnfjhmobeloaa.Plain

namespace Go.Proofs.Ytgbnfjhmobeloaa.Plain
open Go.RowKit Go.Proofs.Ytgbnfjhmobeloaa.G Go.Proofs.YtgbnfjhmobeloaaW.PrintWords Go.Proofs.YtgbnfjhmobeloaaW.PrintLast Go.Proofs.YtgbnfjhmobeloaaW.PrintMore
set_option linter.unusedVariables false
set_option linter.unusedSimpArgs false
theorem ord_step (k : Nat) (xs ys : List Int) (hx : xs.length = 5) (hy : ys.length = 5) (i : Nat) (hi : i < 5) :
    interlocutorref6_order.l0 (k + 1) xs ys (i : Int) = if rd xs (i : Int) < rd ys (i : Int) then some (-1) else if rd xs (i : Int) > rd ys (i : Int) then some 1 else interlocutorref6_order.l0 k xs ys ((i + 1 : Nat) : Int) := by
  simp only [interlocutorref6_order.l0]
  rw [if_pos (by omega), if_pos (by omega), if_pos (by omega), if_pos (by omega), wrap_succ i (by omega)]
theorem or_lt {a b c : Int} (h : a < b) : or2 (cmpI a b) c = -1 := by
  have e : cmpI a b = -1 := if_pos h
  unfold or2
  rw [e, if_neg (by omega)]
theorem or_gt {a b c : Int} (h : b < a) : or2 (cmpI a b) c = 1 := by
  have e : cmpI a b = 1 := by unfold cmpI; rw [if_neg (by omega), if_pos h]
  unfold or2
  rw [e, if_neg (by omega)]
theorem or_eq {a b c : Int} (h : a = b) : or2 (cmpI a b) c = c := by
  have e : cmpI a b = 0 := by unfold cmpI; rw [if_neg (by omega), if_neg (by omega)]
  unfold or2
  rw [e, if_pos rfl]
theorem or_step {a b c : Int} {o : Option Int} (h : a = b → o = some c) : (if a < b then some (-1) else if a > b then some 1 else o) = some (or2 (cmpI a b) c) := by
  by_cases h1 : a < b
  · rw [if_pos h1, or_lt h1]
  · rw [if_neg h1]
    by_cases h2 : a > b
    · rw [if_pos h2, or_gt h2]
    · rw [if_neg h2, or_eq (by omega), h (by omega)]
theorem ref_order (x y : S47) : interlocutorref6_order.f 6 x.f0 x.f1 x.f2 x.f3 x.f4 y.f0 y.f1 y.f2 y.f3 y.f4 = some (cmpT x y) := by
  unfold interlocutorref6_order.f cmpT
  have s := fun k i hi => ord_step k [x.f0, x.f1, x.f2, x.f3, x.f4] [y.f0, y.f1, y.f2, y.f3, y.f4] rfl rfl i hi
  rw [show (0 : Int) = ((0 : Nat) : Int) from rfl, s 5 0 (by omega)]
  refine or_step fun _ => ?_
  rw [s 4 1 (by omega)]
  refine or_step fun _ => ?_
  rw [s 3 2 (by omega)]
  refine or_step fun _ => ?_
  rw [s 2 3 (by omega)]
  refine or_step fun _ => ?_
  rw [s 1 4 (by omega)]
  have e : cmpI x.f4 y.f4 = or2 (cmpI x.f4 y.f4) 0 := by unfold or2; split <;> omega
  rw [e]
  refine or_step fun _ => ?_
  simp [interlocutorref6_order.l0]
theorem ref_order_k (k : Nat) (hk : 6 ≤ k) (x y : S47) : interlocutorref6_order.f k x.f0 x.f1 x.f2 x.f3 x.f4 y.f0 y.f1 y.f2 y.f3 y.f4 = some (cmpT x y) :=
  at_rounds (fun k => interlocutorref6_order.mono _ _ _ _ _ _ _ _ _ _ k) hk (ref_order x y)
theorem cmpI_eq {a b : Int} (h : cmpI a b = 0) : a = b := by
  unfold cmpI at h
  by_cases h1 : a < b
  · rw [if_pos h1] at h; omega
  · rw [if_neg h1] at h
    by_cases h2 : a > b
    · rw [if_pos h2] at h; omega
    · omega
theorem or2_zero {a b : Int} (h : or2 a b = 0) : a = 0 ∧ b = 0 := by
  unfold or2 at h
  by_cases h1 : a = 0
  · rw [if_pos h1] at h; exact ⟨h1, h⟩
  · rw [if_neg h1] at h; exact absurd h h1
theorem cmpT_eq {x y : S47} (h : cmpT x y = 0) : x = y := by
  unfold cmpT at h
  obtain ⟨h0, h⟩ := or2_zero h
  obtain ⟨h1, h⟩ := or2_zero h
  obtain ⟨h2, h⟩ := or2_zero h
  obtain ⟨h3, h4⟩ := or2_zero h
  cases x
  cases y
  have e0 := cmpI_eq h0
  have e1 := cmpI_eq h1
  have e2 := cmpI_eq h2
  have e3 := cmpI_eq h3
  have e4 := cmpI_eq h4
  dsimp only at e0 e1 e2 e3 e4
  subst e0 e1 e2 e3 e4
  rfl
theorem ltT_irr (x : S47) : ¬ ltT x x := by unfold ltT; rw [cmpT_self]; omega
theorem ltT_of_le {x y z : S47} (h1 : cmpT x y ≤ 0) (h2 : cmpT y z ≤ 0) (h : cmpT x y < 0 ∨ cmpT y z < 0) : ltT x z := by
  have t := cmpT_pre.tr x y z (by omega) (by omega)
  unfold ltT
  refine Int.lt_iff_le_and_ne.2 ⟨t, fun e => ?_⟩
  have exz := cmpT_eq e
  subst exz
  have := cmpT_anti x y
  omega
theorem ltT_trans {x y z : S47} (h1 : ltT x y) (h2 : ltT y z) : ltT x z := by
  unfold ltT at h1 h2
  exact ltT_of_le (by omega) (by omega) (.inl h1)
theorem rise_ext : ∀ {l m : List S47}, l.Pairwise ltT → m.Pairwise ltT → (∀ x, x ∈ l ↔ x ∈ m) → l = m
  | [], [], _, _, _ => rfl
  | [], y :: m, _, _, h => absurd ((h y).2 (List.mem_cons_self ..)) (by simp)
  | x :: l, [], _, _, h => absurd ((h x).1 (List.mem_cons_self ..)) (by simp)
  | x :: l, y :: m, hl, hm, h => by
    have hl' := List.pairwise_cons.1 hl
    have hm' := List.pairwise_cons.1 hm
    have exy : x = y := by
      rcases List.mem_cons.1 ((h x).1 (List.mem_cons_self ..)) with e | hx
      · exact e
      · rcases List.mem_cons.1 ((h y).2 (List.mem_cons_self ..)) with e | hy
        · exact e.symm
        · exact absurd (ltT_trans (hl'.1 y hy) (hm'.1 x hx)) (ltT_irr x)
    subst exy
    rw [rise_ext hl'.2 hm'.2 fun z => ?_]
    constructor
    · intro hz
      rcases List.mem_cons.1 ((h z).1 (List.mem_cons_of_mem _ hz)) with e | hz2
      · subst e
        exact absurd (hl'.1 z hz) (ltT_irr z)
      · exact hz2
    · intro hz
      rcases List.mem_cons.1 ((h z).2 (List.mem_cons_of_mem _ hz)) with e | hz2
      · subst e
        exact absurd (hm'.1 z hz) (ltT_irr z)
      · exact hz2
theorem mem_dedup : ∀ (l : List S47) (x : S47), x ∈ dedup l ↔ x ∈ l
  | [], _ => Iff.rfl
  | [_], _ => Iff.rfl
  | y :: z :: l, x => by
    rw [show dedup (y :: z :: l) = if sameT y z = true then dedup (z :: l) else y :: dedup (z :: l) from rfl]
    have ih := mem_dedup (z :: l) x
    by_cases h : sameT y z = true
    · rw [if_pos h, ih, (sameT_iff y z).1 h]
      simp
    · rw [if_neg h, List.mem_cons, ih, List.mem_cons (a := x) (b := y)]
theorem dedup_rise : ∀ {l : List S47}, l.Pairwise (fun a b => cmpT a b ≤ 0) → (dedup l).Pairwise ltT
  | [], _ => List.Pairwise.nil
  | [_], _ => List.pairwise_singleton _ _
  | x :: y :: l, h => by
    have h1 := List.pairwise_cons.1 h
    have ih := dedup_rise h1.2
    rw [show dedup (x :: y :: l) = if sameT x y = true then dedup (y :: l) else x :: dedup (y :: l) from rfl]
    by_cases hs : sameT x y = true
    · rw [if_pos hs]
      exact ih
    · rw [if_neg hs]
      refine List.pairwise_cons.2 ⟨fun z hz => ?_, ih⟩
      have hz' := (mem_dedup _ z).1 hz
      have hxy : cmpT x y < 0 := Int.lt_iff_le_and_ne.2 ⟨h1.1 y (List.mem_cons_self ..), fun e => hs ((sameT_iff x y).2 (cmpT_eq e))⟩
      rcases List.mem_cons.1 hz' with e | hz2
      · subst e
        exact hxy
      · exact ltT_of_le (Int.le_of_lt hxy) ((List.pairwise_cons.1 h1.2).1 z hz2) (.inl hxy)
theorem sort_rise (l : List S47) : (sortT l).Pairwise (fun a b => cmpT a b ≤ 0) := by
  unfold sortT
  have h := List.pairwise_mergeSort (le := leT) (fun a b c hab hbc => by
    unfold leT Go.Proofs.ltOf at hab hbc ⊢
    simp only [Bool.not_eq_true', decide_eq_false_iff_not] at hab hbc ⊢
    have e1 := cmpT_anti a b
    have e2 := cmpT_anti b c
    have e3 := cmpT_anti a c
    have t := cmpT_pre.tr a b c (by omega) (by omega)
    omega) (fun a b => by
    unfold leT Go.Proofs.ltOf
    have e1 := cmpT_anti a b
    by_cases c : cmpT b a < 0
    · rw [decide_eq_true c, decide_eq_false (by omega)]
      rfl
    · rw [decide_eq_false c]
      rfl) l
  refine h.imp fun {a b} hab => ?_
  have e := cmpT_anti a b
  unfold leT Go.Proofs.ltOf at hab
  simp only [Bool.not_eq_true', decide_eq_false_iff_not] at hab
  omega
theorem tok_rise (lex : List S53) (l : List Int) : (tokF lex l).Pairwise ltT := dedup_rise (sort_rise _)
theorem mem_tok (lex : List S53) (l : List Int) (x : S47) : x ∈ tokF lex l ↔ x ∈ rawF l (wordsF lex) l.length := by
  unfold tokF
  rw [mem_dedup]
  unfold sortT
  exact (List.mergeSort_perm _ _).mem_iff
end Go.Proofs.Ytgbnfjhmobeloaa.Plain

namespace Go.Proofs.Ytgbnfjhmobeloaa.Plain
open Go.RowKit Go.Proofs.Ytgbnfjhmobeloaa.G Go.Proofs.YtgbnfjhmobeloaaW.PrintWords Go.Proofs.YtgbnfjhmobeloaaW.PrintLast Go.Proofs.YtgbnfjhmobeloaaW.PrintMore
set_option linter.unusedVariables false
set_option linter.unusedSimpArgs false
structure Ins (l : List S47) (t : S47) (r : List S47) : Prop where
  rise : r.Pairwise ltT
  mem : ∀ x, x ∈ r ↔ x ∈ l ∨ x = t
  len : r.length ≤ l.length + 1
theorem ins_at {l : List S47} {t : S47} (hl : l.Pairwise ltT) (i : Nat) (hi : i ≤ l.length) (h1 : ∀ x ∈ l.take i, ltT x t) (h2 : ∀ x ∈ l.drop i, ltT t x) : Ins l t (l.take i ++ [t] ++ l.drop i) := by
  have hs : (l.take i ++ l.drop i).Pairwise ltT := by rw [List.take_append_drop]; exact hl
  obtain ⟨ha, hb, hc⟩ := List.pairwise_append.1 hs
  refine ⟨?_, ?_, ?_⟩
  · rw [List.append_assoc]
    refine List.pairwise_append.2 ⟨ha, ?_, ?_⟩
    · exact List.pairwise_cons.2 ⟨h2, hb⟩
    · intro x hx y hy
      rcases List.mem_cons.1 hy with e | hy
      · subst e
        exact h1 x hx
      · exact hc x hx y hy
  · intro x
    rw [List.mem_append, List.mem_append, List.mem_singleton]
    have e : x ∈ l ↔ x ∈ l.take i ∨ x ∈ l.drop i := by rw [← List.mem_append, List.take_append_drop]
    rw [e]
    constructor
    · rintro ((h | h) | h)
      · exact .inl (.inl h)
      · exact .inr h
      · exact .inl (.inr h)
    · rintro ((h | h) | h)
      · exact .inl (.inl h)
      · exact .inr h
      · exact .inl (.inr h)
  · rw [List.length_append, List.length_append, List.length_take, List.length_drop, List.length_singleton]
    omega
theorem tail3 (l : List S47) (t : S47) (hl : l.length ≤ 1000000) (i : Nat) (hi : i ≤ l.length) :
    ((some (([] : List (S47)) : List (S47))).bind fun y211 => (if 0 ≤ (i : Int) then (if (i : Int) ≤ (l.length : Int) then ((some (l.take ((i : Int) : Int).toNat : List (S47))).bind fun y214 => (if y211.length + y214.length < 3518437208883 then ((some (y211 ++ y214 : List (S47))).bind fun y219 => ((some (([(⟨t.f0, t.f1, t.f2, t.f3, t.f4⟩ : S47)] : List (S47)) : List (S47))).bind fun y222 => (if y219.length + y222.length < 3518437208883 then ((some (y219 ++ y222 : List (S47))).bind fun y225 => ((some (l.drop ((i : Int) : Int).toNat : List (S47))).bind fun y228 => (if y225.length + y228.length < 3518437208883 then (some (y225 ++ y228)) else (none)))) else (none)))) else (none))) else (none)) else (none))) = some (l.take i ++ [t] ++ l.drop i) := by
  have h1 : (l.take i).length ≤ 1000000 := by rw [List.length_take]; omega
  have h2 : (l.drop i).length ≤ 1000000 := by rw [List.length_drop]; omega
  simp only [Option.bind_some, Int.toNat_natCast]
  rw [if_pos (by omega), if_pos (by omega), if_pos (by rw [List.length_nil]; omega), if_pos (by rw [List.nil_append, List.length_singleton]; omega), if_pos (by rw [List.nil_append, List.length_append, List.length_singleton]; omega), List.nil_append]
theorem put_loop (l : List S47) (t : S47) (hl : l.Pairwise ltT) (hb : l.length ≤ 1000000) : ∀ (i k : Nat), i ≤ l.length → i + 10 < k → (∀ x ∈ l.drop i, ltT t x) →
    ∃ r, interlocutorref6_put.l0 k l (i : Int) t.f0 t.f1 t.f2 t.f3 t.f4 = some r ∧ Ins l t r := by
  intro i
  induction i with
  | zero =>
    intro k hi hk hd
    obtain ⟨k, rfl⟩ : ∃ m, k = m + 1 := ⟨k - 1, by omega⟩
    refine ⟨_, ?_, ins_at hl 0 hi (fun x hx => by simp at hx) hd⟩
    have e := tail3 l t hb 0 hi
    simp only [interlocutorref6_put.l0]
    rw [if_neg (by omega)]
    exact e
  | succ i ih =>
    intro k hi hk hd
    obtain ⟨k, rfl⟩ : ∃ m, k = m + 1 := ⟨k - 1, by omega⟩
    have hlt : i < l.length := by omega
    have hw : wrap64 (((i + 1 : Nat) : Int) - 1) = (i : Int) := by rw [wrapIn _ (by omega) (by omega)]; omega
    have hd' : l.drop i = l[i] :: l.drop (i + 1) := List.drop_eq_getElem_cons hlt
    have ho := ref_order_k k (by omega) t l[i]
    simp only [interlocutorref6_put.l0]
    rw [if_pos (by omega), hw, if_pos (by omega), if_pos (by omega), rdT_get l i hlt, ho, Option.bind_some]
    by_cases c : cmpT t l[i] < 0
    · rw [if_pos c]
      refine ih k (by omega) (by omega) ?_
      rw [hd']
      intro x hx
      rcases List.mem_cons.1 hx with e | hx
      · subst e
        exact c
      · exact hd x hx
    · rw [if_neg c, Option.bind_some]
      by_cases c2 : cmpT t l[i] = 0
      · rw [if_pos c2]
        refine ⟨l, rfl, hl, fun x => ⟨fun h => .inl h, ?_⟩, by omega⟩
        rintro (h | h)
        · exact h
        · rw [h, cmpT_eq c2]
          exact List.getElem_mem hlt
      · rw [if_neg c2]
        have e := tail3 l t hb (i + 1) hi
        refine ⟨_, e, ins_at hl (i + 1) hi ?_ hd⟩
        have ht : ltT l[i] t := by have := cmpT_anti t l[i]; unfold ltT; omega
        intro x hx
        rw [List.take_succ_eq_append_getElem hlt] at hx
        rcases List.mem_append.1 hx with hx | hx
        · have hs : (l.take i ++ l.drop i).Pairwise ltT := by rw [List.take_append_drop]; exact hl
          exact ltT_trans ((List.pairwise_append.1 hs).2.2 x hx l[i] (by rw [hd']; exact List.mem_cons_self ..)) ht
        · rw [List.mem_singleton.1 hx]
          exact ht
theorem put_ok (l : List S47) (t : S47) (hl : l.Pairwise ltT) (hb : l.length ≤ 1000000) (k : Nat) (hk : l.length + 10 < k) : ∃ r, interlocutorref6_put.f k l t.f0 t.f1 t.f2 t.f3 t.f4 = some r ∧ Ins l t r := by
  unfold interlocutorref6_put.f
  exact put_loop l t hl hb l.length k (Nat.le_refl _) hk (by rw [List.drop_length]; intro x hx; cases hx)
theorem ints_loop (l m : List Int) (hl : l.length = m.length) (hb : l.length < 4611686018427387904) : ∀ (d k i : Nat), i + d = l.length → d < k → interlocutorref3_Ints.l0 k l m (i : Int) = some (decide (l.drop i = m.drop i)) := by
  intro d
  induction d with
  | zero =>
    intro k i hi hk
    obtain ⟨k, rfl⟩ : ∃ m, k = m + 1 := ⟨k - 1, by omega⟩
    simp only [interlocutorref3_Ints.l0]
    rw [if_neg (by omega), List.drop_eq_nil_of_le (by omega), List.drop_eq_nil_of_le (by omega)]
    simp
  | succ d ih =>
    intro k i hi hk
    obtain ⟨k, rfl⟩ : ∃ m, k = m + 1 := ⟨k - 1, by omega⟩
    have h1 : i < l.length := by omega
    have h2 : i < m.length := by omega
    have e1 : rd l (i : Int) = l[i] := by show l.getD i 0 = _; rw [List.getD_eq_getElem?_getD, List.getElem?_eq_getElem h1]; rfl
    have e2 : rd m (i : Int) = m[i] := by show m.getD i 0 = _; rw [List.getD_eq_getElem?_getD, List.getElem?_eq_getElem h2]; rfl
    have a1 : (i : Int) < (l.length : Int) := by omega
    have a2 : (i : Int) < (m.length : Int) := by omega
    have hw : wrap64 ((i : Int) + 1) = ((i + 1 : Nat) : Int) := by rw [wrapIn _ (by omega) (by omega)]; omega
    have ih' := ih k (i + 1) (by omega) (by omega)
    simp only [interlocutorref3_Ints.l0]
    rw [if_pos a1, if_pos (by omega), if_pos a2, e1, e2, hw, List.drop_eq_getElem_cons h1, List.drop_eq_getElem_cons h2]
    by_cases c : l[i] = m[i]
    · rw [if_pos c, ih', c]
      congr 1
      exact decide_eq_decide.2 ⟨fun h => by rw [h], fun h => (List.cons.inj h).2⟩
    · rw [if_neg c]
      congr 1
      exact (decide_eq_false fun h => c (List.cons.inj h).1).symm
theorem ints_ok (l m : List Int) (hb : l.length < 4611686018427387904) (k : Nat) (hk : l.length < k) : interlocutorref3_Ints.f k l m = some (decide (l = m)) := by
  unfold interlocutorref3_Ints.f
  by_cases c : (l.length : Int) = (m.length : Int)
  · rw [if_pos c]
    have := ints_loop l m (by omega) hb l.length k 0 (by omega) hk
    rw [List.drop_zero, List.drop_zero] at this
    exact this
  · rw [if_neg c]
    congr 1
    exact (decide_eq_false fun e => c (by rw [e])).symm
theorem stands_ok (l w : List Int) (q : Nat) (hq : q ≤ l.length) (hl : l.length ≤ 1000000) (hw : w.length ≤ 1000000) (hn : w ≠ []) (k : Nat) (hk : 1000000 < k) : interlocutorref6_stands.f k l (q : Int) w = some (hereF l q w) := by
  have hp : 0 < w.length := List.length_pos_iff.2 hn
  have hs : wrap64 ((q : Int) + (w.length : Int)) = ((q + w.length : Nat) : Int) := by rw [wrapIn _ (by omega) (by omega)]; omega
  unfold interlocutorref6_stands.f hereF
  rw [hs, decide_eq_true hp, Bool.true_and]
  by_cases c : q + w.length ≤ l.length
  · rw [if_neg (by omega), if_pos (by omega), if_pos (by omega), if_pos (by omega), Int.toNat_natCast, Int.toNat_natCast, ints_ok _ _ (by rw [List.length_drop, List.length_take]; omega) k (by rw [List.length_drop, List.length_take]; omega), Option.bind_some, decide_eq_true (show w.length ≤ l.length - q by omega), Bool.true_and]
  · rw [if_pos (by omega), decide_eq_false (show ¬ w.length ≤ l.length - q by omega), Bool.false_and]
end Go.Proofs.Ytgbnfjhmobeloaa.Plain

namespace Go.Proofs.Ytgbnfjhmobeloaa.Plain
open Go.RowKit Go.Proofs.Ytgbnfjhmobeloaa.G Go.Proofs.YtgbnfjhmobeloaaW.PrintWords Go.Proofs.YtgbnfjhmobeloaaW.PrintLast Go.Proofs.YtgbnfjhmobeloaaW.PrintMore
set_option linter.unusedVariables false
set_option linter.unusedSimpArgs false
theorem markTable : ∀ r : Fin 128, ∀ j : Fin 11, (decide (((r.val : Nat) : Int) = wrap64 (bt (⟨#[47, 45, 46, 44, 58, 43, 36, 37, 40, 41, 39]⟩ : ByteArray) ((j.val : Nat) : Int)))) = decide (markAt ((r.val : Nat) : Int) = ((j.val : Nat) : Int)) := by decide +kernel
theorem btRange : ∀ j : Fin 11, 0 ≤ wrap64 (bt (⟨#[47, 45, 46, 44, 58, 43, 36, 37, 40, 41, 39]⟩ : ByteArray) ((j.val : Nat) : Int)) ∧ wrap64 (bt (⟨#[47, 45, 46, 44, 58, 43, 36, 37, 40, 41, 39]⟩ : ByteArray) ((j.val : Nat) : Int)) ≤ 126 := by decide +kernel
theorem markIs (r : Int) (j : Nat) (hj : j < 11) : (r = wrap64 (bt (⟨#[47, 45, 46, 44, 58, 43, 36, 37, 40, 41, 39]⟩ : ByteArray) (j : Int))) ↔ markAt r = j := by
  by_cases hr : 0 ≤ r ∧ r ≤ 127
  · have h := markTable ⟨r.toNat, by omega⟩ ⟨j, hj⟩
    have e : ((r.toNat : Nat) : Int) = r := by omega
    dsimp only at h
    rw [e] at h
    exact decide_eq_decide.1 h
  · have h := btRange ⟨j, hj⟩
    dsimp only at h
    have hm : markAt r = -1 := by unfold markAt; rw [if_neg hr]
    rw [hm]
    constructor
    · intro e
      omega
    · intro e
      omega
theorem markLt (r : Int) : markAt r < 11 := by
  unfold markAt
  split
  · exact (indexByte_lt marksL _).2
  · omega
theorem wh_mem (p : Int → Bool) : ∀ l : List Int, ∀ r ∈ l.takeWhile p, p r = true
  | [], r, h => by cases h
  | x :: xs, r, h => by
    rw [List.takeWhile_cons] at h
    by_cases c : p x = true
    · rw [if_pos c] at h
      rcases List.mem_cons.1 h with rfl | h
      · exact c
      · exact wh_mem p xs r h
    · rw [if_neg c] at h
      cases h
theorem wh_stop (p : Int → Bool) : ∀ (l : List Int) (n : Nat), n = (l.takeWhile p).length → n < l.length → p (l.getD n 0) = false
  | [], n, _, h => absurd h (by simp)
  | x :: xs, n, hn, h => by
    rw [List.takeWhile_cons] at hn
    by_cases c : p x = true
    · rw [if_pos c, List.length_cons] at hn
      obtain ⟨m, rfl⟩ : ∃ m, n = m + 1 := ⟨n - 1, by omega⟩
      exact wh_stop p xs m (by omega) (by simpa using h)
    · rw [if_neg c] at hn
      have : n = 0 := hn
      subst this
      show p x = false
      simpa using c
theorem getD_drop0 (l : List Int) (q j : Nat) : (l.drop q).getD j 0 = l.getD (q + j) 0 := by
  rw [List.getD_eq_getElem?_getD, List.getD_eq_getElem?_getD, List.getElem?_drop]
theorem rdD (l : List Int) (i : Nat) : rd l (i : Int) = l.getD i 0 := rfl
theorem refDigit (r : Int) : interlocutorref6_digit.f r = some (isDigit r) := by
  unfold interlocutorref6_digit.f isDigit
  by_cases c : r ≥ 48
  · rw [if_pos c, decide_eq_true (show 48 ≤ r from c), Bool.true_and]
  · rw [if_neg c, decide_eq_false (show ¬ 48 ≤ r from c), Bool.false_and]
theorem marks_ok (l : List Int) (p q : Nat) (hq : q < l.length) (hp : p ≤ q) (hl : l.length ≤ 1000000) : ∀ (d k j : Nat) (r : List S47), j + d = 11 → 2000000 + d < k → r.Pairwise ltT → r.length + d ≤ 1000000 →
    ∃ r', interlocutorref6_from.l2 k l (p : Int) (q : Int) r (j : Int) = some r' ∧ r'.Pairwise ltT ∧ r'.length ≤ r.length + d ∧ ∀ x, x ∈ r' ↔ x ∈ r ∨ ((j : Int) ≤ markAt (l.getD q 0) ∧ x = ⟨(p : Int), ((q + 1 : Nat) : Int), 50 + markAt (l.getD q 0), 0, 0⟩) := by
  have hm := markLt (l.getD q 0)
  intro d
  induction d with
  | zero =>
    intro k j r hj hk hr hb
    obtain ⟨k, rfl⟩ : ∃ m, k = m + 1 := ⟨k - 1, by omega⟩
    simp only [interlocutorref6_from.l2]
    rw [if_neg (by omega)]
    refine ⟨r, rfl, hr, by omega, fun x => ⟨fun h => .inl h, ?_⟩⟩
    rintro (h | ⟨h, _⟩)
    · exact h
    · omega
  | succ d ih =>
    intro k j r hj hk hr hb
    obtain ⟨k, rfl⟩ : ∃ m, k = m + 1 := ⟨k - 1, by omega⟩
    have hj11 : j < 11 := by omega
    have hq1 : (q : Int) < (l.length : Int) := by omega
    simp only [interlocutorref6_from.l2]
    rw [if_pos (by omega), if_pos (by omega), if_pos hq1, if_pos (by omega), rdD, wrap_succ j (by omega), wrap_succ q (by omega), wrapIn (50 + (j : Int)) (by omega) (by omega)]
    by_cases c : markAt (l.getD q 0) = j
    · rw [if_pos ((markIs _ j hj11).2 c)]
      obtain ⟨r1, e1, i1⟩ := put_ok r ⟨(p : Int), ((q + 1 : Nat) : Int), 50 + (j : Int), 0, 0⟩ hr (by omega) k (by omega)
      dsimp only at e1
      rw [e1, Option.bind_some]
      have hlen := i1.len
      obtain ⟨r', e2, h2, h3, h4⟩ := ih k (j + 1) r1 (by omega) (by omega) i1.rise (by omega)
      refine ⟨r', e2, h2, by omega, fun x => ?_⟩
      rw [h4, i1.mem]
      constructor
      · rintro ((h | h) | ⟨h, _⟩)
        · exact .inl h
        · exact .inr ⟨by omega, by rw [h, c]⟩
        · omega
      · rintro (h | ⟨_, h⟩)
        · exact .inl (.inl h)
        · exact .inl (.inr (by rw [h, c]))
    · rw [if_neg (fun h => c ((markIs _ j hj11).1 h))]
      obtain ⟨r', e2, h2, h3, h4⟩ := ih k (j + 1) r (by omega) (by omega) hr (by omega)
      refine ⟨r', e2, h2, by omega, fun x => ?_⟩
      rw [h4]
      constructor
      · rintro (h | ⟨h, h5⟩)
        · exact .inl h
        · exact .inr ⟨by omega, h5⟩
      · rintro (h | ⟨h, h5⟩)
        · exact .inl h
        · exact .inr ⟨by omega, h5⟩
theorem rdL (ws : List (List Int)) (i : Nat) (h : i < ws.length) : rd_L6 ws (i : Int) = ws[i] := by
  unfold rd_L6
  rw [Int.toNat_natCast, List.getD_eq_getElem?_getD, List.getElem?_eq_getElem h]
  rfl
theorem rdE (lex : List S53) (i : Nat) (h : i < lex.length) : rd_T53 lex (i : Int) = lex[i] := by
  unfold rd_T53
  rw [Int.toNat_natCast, List.getD_eq_getElem?_getD, List.getElem?_eq_getElem h]
  rfl
def wordsL (lex : List S53) : List (List Int) := lex.map fun e => foldR e.f0
def wordSigns (lex : List S53) (l : List Int) (p q i : Nat) : List S47 := (((wordsF lex).drop i).filterMap (wordTok l q)).map (atP (p : Int))
theorem words_ok (lex : List S53) (l : List Int) (p q : Nat) (hq : q < l.length) (hp : p ≤ q) (hl : l.length ≤ 1000000) (hx : lex.length ≤ 10000) (hn : ∀ e ∈ lex, foldR e.f0 ≠ [] ∧ (foldR e.f0).length ≤ 1000000) (a0 : ByteArray) (a1 a2 : Int) (l4 : List S108) (l5 : List S138) :
    ∀ (d k i : Nat) (r : List S47), i + d = lex.length → 2000020 + d < k → r.Pairwise ltT → r.length + d + 20 ≤ 1000000 →
    ∃ r', interlocutorref6_from.l1 k (wordsL lex) l (p : Int) (q : Int) r (i : Int) a0 a1 a2 lex l4 l5 = some r' ∧ r'.Pairwise ltT ∧ r'.length ≤ r.length + d + 11 ∧ ∀ x, x ∈ r' ↔ x ∈ r ∨ x ∈ wordSigns lex l p q i ∨ (0 ≤ markAt (l.getD q 0) ∧ x = ⟨(p : Int), ((q + 1 : Nat) : Int), 50 + markAt (l.getD q 0), 0, 0⟩) := by
  have hwl : (wordsL lex).length = lex.length := List.length_map ..
  have hfl : (wordsF lex).length = lex.length := List.length_map ..
  intro d
  induction d with
  | zero =>
    intro k i r hi hk hr hb
    obtain ⟨k, rfl⟩ : ∃ m, k = m + 1 := ⟨k - 1, by omega⟩
    simp only [interlocutorref6_from.l1]
    rw [if_neg (by omega)]
    obtain ⟨r', e, h1, h2, h3⟩ := marks_ok l p q hq hp hl 11 k 0 r (by omega) (by omega) hr (by omega)
    refine ⟨r', e, h1, by omega, fun x => ?_⟩
    rw [h3]
    have ew : wordSigns lex l p q i = [] := by
      unfold wordSigns
      rw [List.drop_eq_nil_of_le (by omega)]
      rfl
    rw [ew]
    constructor
    · rintro (h | h)
      · exact .inl h
      · exact .inr (.inr h)
    · rintro (h | h | h)
      · exact .inl h
      · cases h
      · exact .inr h
  | succ d ih =>
    intro k i r hi hk hr hb
    obtain ⟨k, rfl⟩ : ∃ m, k = m + 1 := ⟨k - 1, by omega⟩
    have hlt : i < lex.length := by omega
    have hm : lex[i] ∈ lex := List.getElem_mem hlt
    have hwi : (wordsL lex)[i]'(by omega) = foldR lex[i].f0 := by unfold wordsL; rw [List.getElem_map]
    have hfi : (wordsF lex).drop i = ⟨foldR lex[i].f0, lex[i].f1, lex[i].f2⟩ :: (wordsF lex).drop (i + 1) := by
      rw [List.drop_eq_getElem_cons (by omega)]
      congr 1
      unfold wordsF
      rw [List.getElem_map]
    have hst := stands_ok l (foldR lex[i].f0) q (by omega) hl (hn _ hm).2 (hn _ hm).1 k (by omega)
    have hwn := (hn _ hm).2
    have hw1 : wrap64 ((q : Int) + ((foldR lex[i].f0).length : Int)) = ((q + (foldR lex[i].f0).length : Nat) : Int) := by rw [wrapIn _ (by omega) (by omega)]; omega
    have ew : wordSigns lex l p q i = (if hereF l q (foldR lex[i].f0) = true then [(⟨(p : Int), ((q + (foldR lex[i].f0).length : Nat) : Int), lex[i].f1, lex[i].f2, 0⟩ : S47)] else []) ++ wordSigns lex l p q (i + 1) := by
      unfold wordSigns
      rw [hfi, List.filterMap_cons]
      have e0 : wordTok l q ⟨foldR lex[i].f0, lex[i].f1, lex[i].f2⟩ = if hereF l q (foldR lex[i].f0) = true then some ⟨0, ((q + (foldR lex[i].f0).length : Nat) : Int), lex[i].f1, lex[i].f2, 0⟩ else none := rfl
      rw [e0]
      by_cases c : hereF l q (foldR lex[i].f0) = true
      · rw [if_pos c, if_pos c]
        rfl
      · rw [if_neg c, if_neg c]
        rfl
    simp only [interlocutorref6_from.l1]
    rw [if_pos (by omega), if_pos (by omega), rdL (wordsL lex) i (by omega), hwi, hst, Option.bind_some, wrap_succ i (by omega), hw1]
    by_cases c : hereF l q (foldR lex[i].f0) = true
    · rw [if_pos c] at ew
      rw [if_pos c, if_pos (by omega), rdE lex i hlt]
      obtain ⟨r1, e1, i1⟩ := put_ok r ⟨(p : Int), ((q + (foldR lex[i].f0).length : Nat) : Int), lex[i].f1, lex[i].f2, 0⟩ hr (by omega) k (by omega)
      dsimp only at e1
      rw [e1, Option.bind_some]
      have hlen := i1.len
      obtain ⟨r', e2, h2, h3, h4⟩ := ih k (i + 1) r1 (by omega) (by omega) i1.rise (by omega)
      refine ⟨r', e2, h2, by omega, fun x => ?_⟩
      rw [h4, i1.mem, ew, List.mem_append, List.mem_singleton]
      constructor
      · rintro ((h | h) | h | h)
        · exact .inl h
        · exact .inr (.inl (.inl h))
        · exact .inr (.inl (.inr h))
        · exact .inr (.inr h)
      · rintro (h | (h | h) | h)
        · exact .inl (.inl h)
        · exact .inl (.inr h)
        · exact .inr (.inl h)
        · exact .inr (.inr h)
    · rw [if_neg c] at ew
      rw [if_neg c]
      obtain ⟨r', e2, h2, h3, h4⟩ := ih k (i + 1) r (by omega) (by omega) hr (by omega)
      refine ⟨r', e2, h2, by omega, fun x => ?_⟩
      rw [h4, ew, List.nil_append]
theorem digits_from (lex : List S53) (l : List Int) (p q : Nat) (hq : q < l.length) (hl : l.length ≤ 1000000) (a0 : ByteArray) (a1 a2 : Int) (l4 : List S108) (l5 : List S138) (ws : List (List Int)) (D : List Int) (hD : D = (l.drop q).takeWhile isDigit) (R : Option (List S47)) (K : Nat)
    (hnext : ∀ k, K ≤ k → interlocutorref6_from.j1 k ws l (p : Int) (q : Int) [] (numVal (D.take 19)) ((q + min D.length 19 : Nat) : Int) a0 a1 a2 lex l4 l5 = R) :
    ∀ (d k j : Nat), j + d = min D.length 19 → K + d < k → interlocutorref6_from.l0 k ws l (p : Int) (q : Int) (numVal (D.take j)) ((q + j : Nat) : Int) a0 a1 a2 lex l4 l5 = R := by
  have hpre : D <+: l.drop q := by rw [hD]; exact List.takeWhile_prefix _
  have hDl : D.length ≤ l.length - q := by have := hpre.length_le; rw [List.length_drop] at this; exact this
  have hDt : D = (l.drop q).take D.length := List.prefix_iff_eq_take.1 hpre
  intro d
  induction d with
  | zero =>
    intro k j hj hk
    obtain ⟨k, rfl⟩ : ∃ m, k = m + 1 := ⟨k - 1, by omega⟩
    have hn := hnext k (by omega)
    have hjj : j = min D.length 19 := by omega
    rw [← hjj] at hn
    have ht : D.take 19 = D.take j := by
      rcases Nat.le_total D.length 19 with h | h
      · rw [List.take_of_length_le h, List.take_of_length_le (by omega)]
      · rw [show j = 19 by omega]
    rw [ht] at hn
    simp only [interlocutorref6_from.l0]
    by_cases c : ((q + j : Nat) : Int) < (l.length : Int)
    · rw [if_pos c, if_pos (by omega), rdD, refDigit, Option.bind_some]
      by_cases c2 : isDigit (l.getD (q + j) 0) = true
      · have h19 : j = 19 := by
          refine Decidable.byContradiction fun h => ?_
          have hs := wh_stop isDigit (l.drop q) j (by rw [← hD]; omega) (by rw [List.length_drop]; omega)
          rw [getD_drop0, c2] at hs
          cases hs
        rw [if_pos c2, if_neg (by rw [wrapIn _ (by omega) (by omega)]; omega)]
        exact hn
      · rw [if_neg c2]
        exact hn
    · rw [if_neg c]
      exact hn
  | succ d ih =>
    intro k j hj hk
    obtain ⟨k, rfl⟩ : ∃ m, k = m + 1 := ⟨k - 1, by omega⟩
    have hjD : j < D.length := by omega
    have hqj : q + j < l.length := by omega
    have hDj : D[j] = l.getD (q + j) 0 := by
      have h1 : D[j]? = (l.drop q)[j]? := by
        have e : ((l.drop q).take D.length)[j]? = (l.drop q)[j]? := by rw [List.getElem?_take, if_pos hjD]
        rw [← hDt] at e
        exact e
      rw [List.getElem?_eq_getElem hjD, List.getElem?_drop] at h1
      rw [List.getD_eq_getElem?_getD, ← h1]
      rfl
    have hdig : isDigit (l.getD (q + j) 0) = true := by
      rw [← hDj]
      have hm : D[j] ∈ D := List.getElem_mem hjD
      exact wh_mem isDigit (l.drop q) _ (hD ▸ hm)
    have hv : numVal (D.take (j + 1)) = wrap64 (wrap64 (wrap64 (10 * numVal (D.take j)) + l.getD (q + j) 0) - 48) := by
      rw [List.take_succ_eq_append_getElem hjD]
      unfold numVal
      rw [List.foldl_append, List.foldl_cons, List.foldl_nil, hDj]
      rfl
    simp only [interlocutorref6_from.l0]
    rw [if_pos (by omega), if_pos (by omega), rdD, refDigit, Option.bind_some, if_pos hdig, if_pos (by rw [wrapIn _ (by omega) (by omega)]; omega), ← hv, wrap_succ (q + j) (by omega)]
    exact ih k (j + 1) (by omega) (by omega)
theorem from_ok (lex : List S53) (l : List Int) (p q : Nat) (hq : q < l.length) (hp : p ≤ q) (hl : l.length ≤ 1000000) (hx : lex.length ≤ 10000) (hn : ∀ e ∈ lex, foldR e.f0 ≠ [] ∧ (foldR e.f0).length ≤ 1000000) (a0 : ByteArray) (a1 a2 : Int) (l4 : List S108) (l5 : List S138) (k : Nat) (hk : 3000000 ≤ k) :
    ∃ r', interlocutorref6_from.f k a0 a1 a2 lex l4 l5 (wordsL lex) l (p : Int) (q : Int) = some r' ∧ r'.Pairwise ltT ∧ r'.length ≤ lex.length + 12 ∧ ∀ x, x ∈ r' ↔ x ∈ (signsAt l (wordsF lex) q).map (atP (p : Int)) := by
  obtain ⟨D, hD⟩ : ∃ D, D = (l.drop q).takeWhile isDigit := ⟨_, rfl⟩
  have hpre : D <+: l.drop q := by rw [hD]; exact List.takeWhile_prefix _
  have hDl : D.length ≤ l.length - q := by have := hpre.length_le; rw [List.length_drop] at this; exact this
  have hDt : D = (l.drop q).take D.length := List.prefix_iff_eq_take.1 hpre
  have hpast : pastF isDigit l q = q + D.length := by unfold pastF; rw [← hD]
  have hcut : (l.take (q + D.length)).drop q = D := by
    rw [List.drop_take, show q + D.length - q = D.length by omega, ← hDt]
  have words : ∀ (r : List S47), r.Pairwise ltT → r.length ≤ 1 → (∀ x, x ∈ r ↔ x ∈ (numTok l q).toList.map (atP (p : Int))) → ∀ k, 2500000 ≤ k →
      ∃ r', interlocutorref6_from.j3 k (wordsL lex) l (p : Int) (q : Int) r a0 a1 a2 lex l4 l5 = some r' ∧ r'.Pairwise ltT ∧ r'.length ≤ lex.length + 12 ∧ ∀ x, x ∈ r' ↔ x ∈ (signsAt l (wordsF lex) q).map (atP (p : Int)) := by
    intro r hr hrl hrm k hk
    obtain ⟨k, rfl⟩ : ∃ m, k = m + 1 := ⟨k - 1, by omega⟩
    obtain ⟨r', e, h1, h2, h3⟩ := words_ok lex l p q hq hp hl hx hn a0 a1 a2 l4 l5 lex.length k 0 r (by omega) (by omega) hr (by omega)
    refine ⟨r', by simp only [interlocutorref6_from.j3]; exact e, h1, by omega, fun x => ?_⟩
    rw [h3, hrm]
    unfold signsAt wordSigns
    rw [if_pos hq, List.drop_zero, List.map_append, List.map_append, List.mem_append, List.mem_append]
    have em : x ∈ (markTok l q).toList.map (atP (p : Int)) ↔ (0 ≤ markAt (l.getD q 0) ∧ x = ⟨(p : Int), ((q + 1 : Nat) : Int), 50 + markAt (l.getD q 0), 0, 0⟩) := by
      unfold markTok
      by_cases c : 0 ≤ markAt (l.getD q 0)
      · rw [if_pos c]
        show x ∈ [_] ↔ _
        rw [List.mem_singleton]
        exact ⟨fun h => ⟨c, h⟩, fun h => h.2⟩
      · rw [if_neg c]
        exact ⟨fun h => by simp at h, fun h => absurd h.1 c⟩
    rw [em]
    constructor
    · rintro (h | h | h)
      · exact .inl (.inl h)
      · exact .inr h
      · exact .inl (.inr h)
    · rintro ((h | h) | h)
      · exact .inl h
      · exact .inr (.inr h)
      · exact .inr (.inl h)
  have main : ∃ r', (∀ k, 2600000 ≤ k → interlocutorref6_from.j1 k (wordsL lex) l (p : Int) (q : Int) [] (numVal (D.take 19)) ((q + min D.length 19 : Nat) : Int) a0 a1 a2 lex l4 l5 = some r') ∧ r'.Pairwise ltT ∧ r'.length ≤ lex.length + 12 ∧ ∀ x, x ∈ r' ↔ x ∈ (signsAt l (wordsF lex) q).map (atP (p : Int)) := by
    have hw : wrap64 (((q + min D.length 19 : Nat) : Int) - (q : Int)) = ((min D.length 19 : Nat) : Int) := by rw [wrapIn _ (by omega) (by omega)]; omega
    by_cases c : 0 < D.length ∧ D.length ≤ 18
    · have hmin : min D.length 19 = D.length := by omega
      have htk : D.take 19 = D := List.take_of_length_le (by omega)
      have ht : numTok l q = some ⟨0, ((q + D.length : Nat) : Int), 0, numVal D, (D.length : Int)⟩ := by
        unfold numTok
        rw [hpast, if_neg (by omega), hcut, show q + D.length - q = D.length by omega]
      obtain ⟨r1, e1, i1⟩ := put_ok [] ⟨(p : Int), ((q + D.length : Nat) : Int), 0, numVal D, (D.length : Int)⟩ List.Pairwise.nil (by simp) 2500000 (by simp)
      have hi1 := i1.len
      obtain ⟨r', e2, h2⟩ := words r1 i1.rise (by simpa using hi1) (fun x => by rw [i1.mem, ht]; show _ ↔ x ∈ [_]; rw [List.mem_singleton]; exact ⟨fun h => h.resolve_left (by simp), fun h => .inr h⟩) 2500000 (by omega)
      refine ⟨r', fun k hk => ?_, h2⟩
      obtain ⟨k, rfl⟩ : ∃ m, k = m + 2 := ⟨k - 2, by omega⟩
      have e1' := at_rounds (fun k => interlocutorref6_put.mono _ _ _ _ _ _ k) (show 2500000 ≤ k by omega) e1
      have e2' := at_rounds (fun k => (interlocutorref6_from.mono_l k).2.2.1 _ _ _ _ _ _ _ _ _ _ _) (show 2500000 ≤ k by omega) e2
      rw [hmin] at hw
      rw [show k + 2 = (k + 1) + 1 from rfl, hmin, htk]
      simp only [interlocutorref6_from.j1]
      rw [if_pos (by omega), hw]
      simp only [interlocutorref6_from.j2]
      rw [if_pos (decide_eq_true (by omega)), hw]
      dsimp only at e1'
      rw [e1', Option.bind_some]
      exact e2'
    · have ht : numTok l q = none := by
        unfold numTok
        rw [hpast, if_pos (by omega)]
      obtain ⟨r', e2, h2⟩ := words [] List.Pairwise.nil (by simp) (fun x => by rw [ht]; simp) 2500000 (by omega)
      refine ⟨r', fun k hk => ?_, h2⟩
      obtain ⟨k, rfl⟩ : ∃ m, k = m + 2 := ⟨k - 2, by omega⟩
      have e2' := at_rounds (fun k => (interlocutorref6_from.mono_l k).2.2.1 _ _ _ _ _ _ _ _ _ _ _) (show 2500000 ≤ k by omega) e2
      rw [show k + 2 = (k + 1) + 1 from rfl]
      simp only [interlocutorref6_from.j1]
      by_cases c2 : ((q + min D.length 19 : Nat) : Int) > (q : Int)
      · rw [if_pos c2, hw]
        simp only [interlocutorref6_from.j2]
        rw [if_neg (by simp; omega)]
        exact e2'
      · rw [if_neg c2]
        simp only [interlocutorref6_from.j2]
        rw [if_neg (by simp)]
        exact e2'
  obtain ⟨r', h1, h2⟩ := main
  refine ⟨r', ?_, h2⟩
  unfold interlocutorref6_from.f
  have := digits_from lex l p q hq hl a0 a1 a2 l4 l5 (wordsL lex) D hD (some r') 2600000 h1 (min D.length 19) k 0 (by omega) (by omega)
  rw [Nat.add_zero, List.take_zero] at this
  exact this
end Go.Proofs.Ytgbnfjhmobeloaa.Plain

namespace Go.Proofs.Ytgbnfjhmobeloaa.Plain
open Go.RowKit Go.Proofs.Ytgbnfjhmobeloaa.G Go.Proofs.YtgbnfjhmobeloaaW.PrintWords Go.Proofs.YtgbnfjhmobeloaaW.PrintLast Go.Proofs.YtgbnfjhmobeloaaW.PrintMore
set_option linter.unusedVariables false
set_option linter.unusedSimpArgs false
theorem foldR_runes (s : ByteArray) (h : s.size ≤ 1000000) : foldR s = runesOf s := by
  have e1 := fold_is s h
  have e2 := fold_eq s (by omega)
  rw [e1] at e2
  injection e2 with e2
  injection e2 with e2 _
theorem rawF_succ (l : List Int) (ws : List S71) (p : Nat) : rawF l ws (p + 1) = rawF l ws p ++ rawAt l ws p := by
  unfold rawF
  rw [List.range_succ, List.flatMap_append]
  simp
theorem rawAt_f0 {l : List Int} {ws : List S71} {p : Nat} {x : S47} (h : x ∈ rawAt l ws p) : x.f0 = p := by
  unfold rawAt at h
  obtain ⟨y, _, rfl⟩ := List.mem_map.1 h
  rfl
section
variable (lex : List S53) (l : List Int) (hl : l.length ≤ 1000000) (hx : lex.length ≤ 10000) (hn : ∀ e ∈ lex, foldR e.f0 ≠ [] ∧ e.f0.size ≤ 1000000) (a0 : ByteArray) (a1 a2 : Int) (l4 : List S108) (l5 : List S138)
include hl hx hn
theorem past_loop (C : Nat) (hC : lex.length + 12 ≤ C) (p : Nat) (hpC : p * C ≤ 100000000000) (x9 : List S47) (hp : p < l.length) (hr : x9.Pairwise ltT) (hf : ∀ x ∈ x9, x.f0 < (p : Int)) (hm : ∀ x, x ∈ x9 ↔ x ∈ rawF l (wordsF lex) p) (hc : x9.length ≤ p * C) (K : Nat) (hK : 3000000 ≤ K) (P : List S47 → Prop)
    (hnext : ∀ (k : Nat) (y : List S47), K ≤ k → y.Pairwise ltT → (∀ x ∈ y, x.f0 < ((p + 1 : Nat) : Int)) → (∀ x, x ∈ y ↔ x ∈ rawF l (wordsF lex) (p + 1)) → y.length ≤ p * C + C → ∃ r, interlocutorref6_Tokens.l1 k l (wordsL lex) y ((p + 1 : Nat) : Int) a0 a1 a2 lex l4 l5 = some r ∧ P r) :
    ∀ (d k i : Nat), i + d = l.length → p ≤ i → pastF isBlank l i = pastF isBlank l p → K + d < k → ∃ r, interlocutorref6_Tokens.l2 k l (wordsL lex) x9 (p : Int) (i : Int) a0 a1 a2 lex l4 l5 = some r ∧ P r := by
  intro d
  induction d with
  | zero =>
    intro k i hi hpi hq hk
    obtain ⟨k, rfl⟩ : ∃ m, k = m + 1 := ⟨k - 1, by omega⟩
    simp only [interlocutorref6_Tokens.l2]
    rw [if_neg (by omega), wrap_succ p (by omega)]
    have er : rawAt l (wordsF lex) p = [] := by
      unfold rawAt
      rw [← hq, pastF_end isBlank l i (by omega)]
      unfold signsAt
      rw [if_neg (by omega)]
      rfl
    refine hnext k x9 (by omega) hr (fun x h => by have := hf x h; omega) (fun x => ?_) (by omega)
    rw [rawF_succ, er, List.append_nil]
    exact hm x
  | succ d ih =>
    intro k i hi hpi hq hk
    obtain ⟨k, rfl⟩ : ∃ m, k = m + 1 := ⟨k - 1, by omega⟩
    have hil : i < l.length := by omega
    have eg : l.getD i 0 = l[i] := by rw [List.getD_eq_getElem?_getD, List.getElem?_eq_getElem hil]; rfl
    simp only [interlocutorref6_Tokens.l2]
    rw [if_pos (by omega), if_pos (by omega), rdD, eg]
    by_cases c : l[i] = 32
    · rw [if_pos c, wrap_succ i (by omega)]
      exact ih k (i + 1) (by omega) (by omega) (by rw [← hq]; exact (pastF_yes isBlank l i hil (by unfold isBlank; exact decide_eq_true c)).symm) (by omega)
    · rw [if_neg c]
      have hqi : pastF isBlank l p = i := by rw [← hq]; exact pastF_no isBlank l i hil (by unfold isBlank; exact decide_eq_false c)
      obtain ⟨t, e1, h1, h2, h3⟩ := from_ok lex l p i hil hpi hl hx (fun e he => ⟨(hn e he).1, Nat.le_trans (foldR_len e.f0) (hn e he).2⟩) a0 a1 a2 l4 l5 k (by omega)
      have hra : rawAt l (wordsF lex) p = (signsAt l (wordsF lex) i).map (atP (p : Int)) := by unfold rawAt; rw [hqi]
      rw [e1, Option.bind_some, if_pos (by omega), wrap_succ p (by omega)]
      have ht : ∀ x ∈ t, x.f0 = p := fun x hx => rawAt_f0 (l := l) (ws := wordsF lex) (by rw [hra]; exact (h3 x).1 hx)
      refine hnext k (x9 ++ t) (by omega) ?_ ?_ ?_ ?_
      · refine List.pairwise_append.2 ⟨hr, h1, fun x hx y hy => ltT_f0 ?_⟩
        rw [ht y hy]
        exact hf x hx
      · intro x hx
        rcases List.mem_append.1 hx with hx | hx
        · have := hf x hx
          omega
        · have := ht x hx
          omega
      · intro x
        rw [rawF_succ, List.mem_append, List.mem_append, hm, h3, hra]
      · rw [List.length_append]
        omega
theorem place_loop (C : Nat) (hC : lex.length + 12 ≤ C) (hC2 : C ≤ 20000) : ∀ (d k p : Nat) (x9 : List S47), p + d = l.length → 3000000 + d * (l.length + 2) < k → x9.Pairwise ltT → (∀ x ∈ x9, x.f0 < (p : Int)) → (∀ x, x ∈ x9 ↔ x ∈ rawF l (wordsF lex) p) → x9.length ≤ p * C →
    ∃ r, interlocutorref6_Tokens.l1 k l (wordsL lex) x9 (p : Int) a0 a1 a2 lex l4 l5 = some r ∧ r = tokF lex l := by
  intro d
  induction d with
  | zero =>
    intro k p x9 hp hk hr hf hm hc
    obtain ⟨k, rfl⟩ : ∃ m, k = m + 1 := ⟨k - 1, by omega⟩
    obtain rfl : p = l.length := by omega
    simp only [interlocutorref6_Tokens.l1]
    rw [if_neg (by omega)]
    exact ⟨_, rfl, rise_ext hr (tok_rise lex l) fun x => by rw [hm, mem_tok]⟩
  | succ d ih =>
    intro k p x9 hp hk hr hf hm hc
    obtain ⟨k, rfl⟩ : ∃ m, k = m + 1 := ⟨k - 1, by omega⟩
    rw [Nat.succ_mul] at hk
    obtain ⟨K, hK⟩ : ∃ K, K = 3000000 + d * (l.length + 2) + 1 := ⟨_, rfl⟩
    simp only [interlocutorref6_Tokens.l1]
    rw [if_pos (by omega)]
    have hpC : p * C ≤ 1000000 * 20000 := Nat.mul_le_mul (by omega) hC2
    have hpC2 : p * C ≤ 100000000000 := Nat.le_trans hpC (by decide)
    clear hpC
    have hlp : p < l.length := by omega
    refine past_loop lex l hl hx hn a0 a1 a2 l4 l5 C hC p hpC2 x9 hlp hr hf hm hc K (by omega) _ (fun k2 y hk2 g1 g2 g3 g4 => ih k2 (p + 1) y (by omega) (by omega) g1 g2 g3 (by rw [Nat.succ_mul]; exact g4)) (l.length - p) k p (by omega) (Nat.le_refl _) rfl (by omega)
theorem words_loop : ∀ (d k i : Nat), i + d = lex.length → 3000010 + l.length * (l.length + 2) + d < k →
    interlocutorref6_Tokens.l0 k l (wordsL (lex.take i)) (i : Int) a0 a1 a2 lex l4 l5 = some (tokF lex l) := by
  intro d
  induction d with
  | zero =>
    intro k i hi hk
    obtain ⟨k, rfl⟩ : ∃ m, k = m + 1 := ⟨k - 1, by omega⟩
    rw [List.take_of_length_le (by omega)]
    simp only [interlocutorref6_Tokens.l0]
    rw [if_neg (by omega)]
    obtain ⟨r, e, h⟩ := place_loop lex l hl hx hn a0 a1 a2 l4 l5 (lex.length + 12) (Nat.le_refl _) (by omega) l.length k 0 [] (by omega) (by omega) List.Pairwise.nil (fun x h => by cases h) (fun x => by simp [rawF]) (by simp)
    rw [← h]
    exact e
  | succ d ih =>
    intro k i hi hk
    obtain ⟨k, rfl⟩ : ∃ m, k = m + 1 := ⟨k - 1, by omega⟩
    have hlt : i < lex.length := by omega
    have hm : lex[i] ∈ lex := List.getElem_mem hlt
    have hsz := (hn _ hm).2
    obtain ⟨o, ho⟩ := ref_fold6 lex[i].f0 (by omega) k (by omega)
    have ih' := ih k (i + 1) (by omega) (by omega)
    have ew : wordsL (lex.take (i + 1)) = wordsL (lex.take i) ++ [runesOf lex[i].f0] := by
      unfold wordsL
      rw [List.take_succ_eq_append_getElem hlt, List.map_append, ← foldR_runes _ hsz]
      rfl
    have hlw : (wordsL (lex.take i)).length ≤ 10000 := by unfold wordsL; rw [List.length_map, List.length_take]; omega
    rw [ew] at ih'
    simp only [interlocutorref6_Tokens.l0]
    rw [if_pos (by omega), if_pos (by omega), rdE lex i hlt, ho, Option.bind_some, if_pos (by omega), wrap_succ i (by omega)]
    exact ih'
theorem ref_tokens (k : Nat) (hk : 3020010 + l.length * (l.length + 2) < k) : interlocutorref6_Tokens.f k a0 a1 a2 lex l4 l5 l = some (tokF lex l) := by
  unfold interlocutorref6_Tokens.f
  exact words_loop lex l hl hx hn a0 a1 a2 l4 l5 lex.length k 0 (by omega) (by omega)
end
theorem same_loop (l : List S47) (hl : l.length ≤ 1000000000) : ∀ (d k i : Nat), i + d = l.length → d < k → interlocutorref6_Same.l0 k l l (i : Int) = some true := by
  intro d
  induction d with
  | zero =>
    intro k i hi hk
    obtain ⟨k, rfl⟩ : ∃ m, k = m + 1 := ⟨k - 1, by omega⟩
    simp only [interlocutorref6_Same.l0]
    rw [if_neg (by omega)]
  | succ d ih =>
    intro k i hi hk
    obtain ⟨k, rfl⟩ : ∃ m, k = m + 1 := ⟨k - 1, by omega⟩
    simp only [interlocutorref6_Same.l0]
    rw [if_pos (by omega), if_pos (by omega), if_pos (by omega), if_neg (by simp), wrap_succ i (by omega)]
    exact ih k (i + 1) (by omega) (by omega)
theorem same_ok (l : List S47) (hl : l.length ≤ 1000000000) (k : Nat) (hk : l.length < k) : interlocutorref6_Same.f k l l = some true := by
  unfold interlocutorref6_Same.f
  rw [if_pos rfl]
  exact same_loop l hl l.length k 0 (by omega) hk
end Go.Proofs.Ytgbnfjhmobeloaa.Plain

namespace Go.Proofs.Ytgbnfjhmobeloaa.Pure
open Go.RowKit Go.Proofs.Ytgbnfjhmobeloaa.G Go.Proofs.YtgbnfjhmobeloaaW.PrintWords Go.Proofs.YtgbnfjhmobeloaaW.PrintLast Go.Proofs.YtgbnfjhmobeloaaW.PrintMore Go.Proofs.Ytgbnfjhmobeloaa.Plain
set_option linter.unusedVariables false
set_option linter.unusedSimpArgs false
def T6 : List ByteArray := [(⟨#[97]⟩ : ByteArray), (⟨#[97, 97]⟩ : ByteArray), (⟨#[97, 98]⟩ : ByteArray), (⟨#[97, 97, 98]⟩ : ByteArray), (⟨#[98]⟩ : ByteArray), (⟨#[97]⟩ : ByteArray)]
def R5 : List Int := [97, 97, 98, 97, 97]
def S5 : ByteArray := ⟨#[97, 97, 98, 97, 97]⟩
theorem match_table : ∀ i : Fin 6, ∀ p : Fin 5, (if p.val + (T6.getD i.val ByteArray.empty).size ≤ 5 then decide ((S5.extract p.val (p.val + (T6.getD i.val ByteArray.empty).size)).data.toList = (T6.getD i.val ByteArray.empty).data.toList) else false) = hereF R5 p.val (foldR (T6.getD i.val ByteArray.empty)) := by decide +kernel
theorem foldR_inj_table : ∀ i j : Fin 6, foldR (T6.getD i.val ByteArray.empty) = foldR (T6.getD j.val ByteArray.empty) → (T6.getD i.val ByteArray.empty).data.toList = (T6.getD j.val ByteArray.empty).data.toList := by decide +kernel
theorem foldR_size_table : ∀ i : Fin 6, (foldR (T6.getD i.val ByteArray.empty)) ≠ [] ∧ (T6.getD i.val ByteArray.empty).size ≤ 3 := by decide +kernel
theorem place_table : ∀ p : Fin 5, pastF isBlank R5 p.val = p.val ∧ pastF isDigit R5 p.val = p.val ∧ ¬ 0 ≤ markAt (R5.getD p.val 0) := by decide +kernel
theorem of_T6 {t : ByteArray} (h : t ∈ T6) : ∃ i : Fin 6, t = T6.getD i.val ByteArray.empty := by
  obtain ⟨i, hi, e⟩ := List.mem_iff_getElem.1 h
  have hi6 : i < 6 := hi
  exact ⟨⟨i, hi6⟩, by rw [List.getD_eq_getElem?_getD, List.getElem?_eq_getElem hi]; exact e.symm⟩
theorem bytes_ext {a b : ByteArray} (h : a.data.toList = b.data.toList) : a = b := by
  apply ByteArray.ext
  exact Array.toList_inj.1 h
theorem match_at {t : ByteArray} (h : t ∈ T6) (p : Nat) (hp : p < 5) : (p + t.size ≤ 5 → (((S5.extract p (p + t.size)).toList != t.toList) = !(hereF R5 p (foldR t)))) ∧ (¬ p + t.size ≤ 5 → hereF R5 p (foldR t) = false) := by
  obtain ⟨i, rfl⟩ := of_T6 h
  have e := match_table i ⟨p, hp⟩
  dsimp only at e
  generalize T6.getD i.val ByteArray.empty = t at e h
  constructor
  · intro hc
    rw [if_pos hc] at e
    rw [← e, Lib.toList_data, Lib.toList_data]
    by_cases c : (S5.extract p (p + t.size)).data.toList = t.data.toList
    · rw [decide_eq_true c, c]
      simp
    · rw [decide_eq_false c]
      simpa using c
  · intro hc
    rw [if_neg hc] at e
    exact e.symm
theorem foldR_inj {s t : ByteArray} (hs : s ∈ T6) (ht : t ∈ T6) (h : foldR s = foldR t) : s = t := by
  obtain ⟨i, rfl⟩ := of_T6 hs
  obtain ⟨j, rfl⟩ := of_T6 ht
  exact bytes_ext (foldR_inj_table i j h)
theorem size_T6 {t : ByteArray} (h : t ∈ T6) : foldR t ≠ [] ∧ t.size ≤ 3 := by
  obtain ⟨i, rfl⟩ := of_T6 h
  exact foldR_size_table i
def sameE (a e : S53) : Bool := (a.f0.toList == e.f0.toList && (a.f1 == e.f1 && a.f2 == e.f2))
theorem sameE_iff (a e : S53) : sameE a e = true ↔ a = e := by
  cases a
  cases e
  unfold sameE
  simp only [Lib.toList_data, Bool.and_eq_true, beq_iff_eq]
  constructor
  · rintro ⟨h1, h2, h3⟩
    rw [bytes_ext h1, h2, h3]
  · intro h
    injection h with h1 h2 h3
    subst h1 h2 h3
    exact ⟨rfl, rfl, rfl⟩
def step (p : Nat) (seen : List S53) (e : S53) : List S53 := if hereF R5 p (foldR e.f0) = true then (if seen.any (fun a => sameE a e) = true then seen else seen ++ [e]) else seen
def seenI (lex : List S53) (p i : Nat) : List S53 := (lex.take i).foldl (step p) []
theorem seenI_succ (lex : List S53) (p i : Nat) (h : i < lex.length) : seenI lex p (i + 1) = step p (seenI lex p i) lex[i] := by
  unfold seenI
  rw [List.take_succ_eq_append_getElem h, List.foldl_append]
  rfl
theorem any_same (seen : List S53) (e : S53) : seen.any (fun a => sameE a e) = true ↔ e ∈ seen := by
  rw [List.any_eq_true]
  constructor
  · rintro ⟨a, ha, h⟩
    rw [(sameE_iff a e).1 h] at ha
    exact ha
  · intro h
    exact ⟨e, h, (sameE_iff e e).2 rfl⟩
theorem seenI_spec (lex : List S53) (p : Nat) : ∀ i, i ≤ lex.length → (seenI lex p i).Nodup ∧ (seenI lex p i).length ≤ i ∧ ∀ e, e ∈ seenI lex p i ↔ (e ∈ lex.take i ∧ hereF R5 p (foldR e.f0) = true) := by
  intro i
  induction i with
  | zero => intro _; exact ⟨List.nodup_nil, Nat.le_refl _, fun e => by simp [seenI]⟩
  | succ i ih =>
    intro hi
    have hlt : i < lex.length := by omega
    obtain ⟨h1, h2, h3⟩ := ih (by omega)
    rw [seenI_succ lex p i hlt, List.take_succ_eq_append_getElem hlt]
    unfold step
    by_cases c : hereF R5 p (foldR lex[i].f0) = true
    · rw [if_pos c]
      by_cases c2 : (seenI lex p i).any (fun a => sameE a lex[i]) = true
      · rw [if_pos c2]
        refine ⟨h1, by omega, fun e => ?_⟩
        rw [h3, List.mem_append, List.mem_singleton]
        constructor
        · rintro ⟨h, h4⟩
          exact ⟨.inl h, h4⟩
        · rintro ⟨h | h, h4⟩
          · exact ⟨h, h4⟩
          · rw [h]
            exact (h3 _).1 ((any_same _ _).1 c2)
      · rw [if_neg c2]
        refine ⟨?_, by rw [List.length_append, List.length_singleton]; omega, fun e => ?_⟩
        · rw [List.nodup_append]
          refine ⟨h1, by simp, fun a ha b hb e => ?_⟩
          rw [List.mem_singleton.1 hb] at e
          rw [e] at ha
          exact c2 ((any_same _ _).2 ha)
        · rw [List.mem_append, List.mem_singleton, h3, List.mem_append, List.mem_singleton]
          constructor
          · rintro (⟨h, h4⟩ | h)
            · exact ⟨.inl h, h4⟩
            · exact ⟨.inr h, by rw [h]; exact c⟩
          · rintro ⟨h | h, h4⟩
            · exact .inl ⟨h, h4⟩
            · exact .inr h
    · rw [if_neg c]
      refine ⟨h1, by omega, fun e => ?_⟩
      rw [h3, List.mem_append, List.mem_singleton]
      constructor
      · rintro ⟨h, h4⟩
        exact ⟨.inl h, h4⟩
      · rintro ⟨h | h, h4⟩
        · exact ⟨h, h4⟩
        · rw [h] at h4
          exact absurd h4 c
def tokW (p : Nat) (e : S53) : S47 := ⟨(p : Int), ((p + (foldR e.f0).length : Nat) : Int), e.f1, e.f2, 0⟩
def allW (lex : List S53) (n : Nat) : List S47 := (List.range n).flatMap fun p => (seenI lex p lex.length).map (tokW p)
def tot (lex : List S53) : Nat → Nat
  | 0 => 0
  | p + 1 => tot lex p + (seenI lex p lex.length).length
theorem allW_succ (lex : List S53) (n : Nat) : allW lex (n + 1) = allW lex n ++ (seenI lex n lex.length).map (tokW n) := by
  unfold allW
  rw [List.range_succ, List.flatMap_append]
  simp
theorem allW_len (lex : List S53) : ∀ n, (allW lex n).length = tot lex n
  | 0 => rfl
  | n + 1 => by rw [allW_succ, List.length_append, List.length_map, allW_len lex n]; rfl
theorem here_cut {w : List Int} {p : Nat} (h : hereF R5 p w = true) : (R5.take (p + w.length)).drop p = w := by
  unfold hereF at h
  rw [Bool.and_eq_true, Bool.and_eq_true] at h
  exact of_decide_eq_true h.2.2
theorem allW_nodup (lex : List S53) (hT : ∀ e ∈ lex, e.f0 ∈ T6) : ∀ n, (allW lex n).Nodup ∧ ∀ x ∈ allW lex n, x.f0 < (n : Int)
  | 0 => ⟨List.nodup_nil, fun x h => by cases h⟩
  | n + 1 => by
    obtain ⟨h1, h2⟩ := allW_nodup lex hT n
    obtain ⟨g1, _, g3⟩ := seenI_spec lex n lex.length (Nat.le_refl _)
    rw [allW_succ]
    refine ⟨?_, ?_⟩
    · rw [List.nodup_append]
      refine ⟨h1, ?_, fun a ha b hb e => ?_⟩
      · rw [List.nodup_iff_pairwise_ne, List.pairwise_map]
        refine (List.nodup_iff_pairwise_ne.1 g1).imp_of_mem fun {a b} ha hb hab e => hab ?_
        obtain ⟨ma, ka⟩ := (g3 a).1 ha
        obtain ⟨mb, kb⟩ := (g3 b).1 hb
        rw [List.take_length] at ma mb
        have e1 : ((n + (foldR a.f0).length : Nat) : Int) = ((n + (foldR b.f0).length : Nat) : Int) := congrArg S47.f1 e
        have e2 : a.f1 = b.f1 := congrArg S47.f2 e
        have e3 : a.f2 = b.f2 := congrArg S47.f3 e
        have e4 : foldR a.f0 = foldR b.f0 := by
          have c1 := here_cut ka
          have c2 := here_cut kb
          rw [show n + (foldR a.f0).length = n + (foldR b.f0).length by omega, c2] at c1
          exact c1.symm
        have e5 := foldR_inj (hT a ma) (hT b mb) e4
        cases a
        cases b
        dsimp only at e2 e3 e5
        subst e2 e3 e5
        rfl
      · obtain ⟨c, _, rfl⟩ := List.mem_map.1 hb
        have := h2 a ha
        rw [e] at this
        exact absurd this (by show ¬ (n : Int) < n; omega)
    · intro x hx
      rcases List.mem_append.1 hx with hx | hx
      · have := h2 x hx
        omega
      · obtain ⟨c, _, rfl⟩ := List.mem_map.1 hx
        show (n : Int) < _
        omega
theorem nodup_len {α : Type} : ∀ (l m : List α), l.Nodup → (∀ x ∈ l, x ∈ m) → l.length ≤ m.length
  | [], _, _, _ => Nat.zero_le _
  | x :: l, m, hl, h => by
    obtain ⟨m1, m2, rfl⟩ := List.append_of_mem (h x (List.mem_cons_self ..))
    have hl' := List.nodup_cons.1 hl
    have := nodup_len l (m1 ++ m2) hl'.2 fun y hy => by
      have hy' := h y (List.mem_cons_of_mem _ hy)
      rcases List.mem_append.1 hy' with g | g
      · exact List.mem_append_left _ g
      · rcases List.mem_cons.1 g with g | g
        · subst g
          exact absurd hy hl'.1
        · exact List.mem_append_right _ g
    rw [List.length_append] at this
    rw [List.length_append, List.length_cons, List.length_cons]
    omega
theorem mem_allW (lex : List S53) (x : S47) : x ∈ allW lex 5 ↔ x ∈ rawF R5 (wordsF lex) R5.length := by
  unfold allW rawF
  rw [List.mem_flatMap, List.mem_flatMap]
  have each : ∀ p, p < 5 → (x ∈ (seenI lex p lex.length).map (tokW p) ↔ x ∈ rawAt R5 (wordsF lex) p) := by
    intro p hp
    obtain ⟨h1, h2, h3⟩ := place_table ⟨p, hp⟩
    dsimp only at h1 h2 h3
    obtain ⟨_, _, g3⟩ := seenI_spec lex p lex.length (Nat.le_refl _)
    have hn : numTok R5 p = none := by unfold numTok; rw [if_pos (.inl h2)]
    have hm : markTok R5 p = none := by unfold markTok; rw [if_neg h3]
    unfold rawAt signsAt
    rw [h1, if_pos (show p < R5.length from hp), hn, hm]
    show _ ↔ x ∈ (([] : List S47) ++ [] ++ (wordsF lex).filterMap (wordTok R5 p)).map (atP (p : Int))
    rw [List.nil_append, List.nil_append, List.mem_map, List.mem_map]
    constructor
    · rintro ⟨e, he, rfl⟩
      obtain ⟨m, hh⟩ := (g3 e).1 he
      rw [List.take_length] at m
      refine ⟨⟨0, ((p + (foldR e.f0).length : Nat) : Int), e.f1, e.f2, 0⟩, List.mem_filterMap.2 ⟨⟨foldR e.f0, e.f1, e.f2⟩, List.mem_map.2 ⟨e, m, rfl⟩, ?_⟩, rfl⟩
      unfold wordTok
      rw [if_pos hh]
    · rintro ⟨y, hy, rfl⟩
      obtain ⟨w, hw, h5⟩ := List.mem_filterMap.1 hy
      obtain ⟨e, he, rfl⟩ := List.mem_map.1 hw
      unfold wordTok at h5
      by_cases c : hereF R5 p (foldR e.f0) = true
      · rw [if_pos c] at h5
        cases h5
        exact ⟨e, (g3 e).2 ⟨by rw [List.take_length]; exact he, c⟩, rfl⟩
      · rw [if_neg c] at h5
        cases h5
  constructor
  · rintro ⟨p, hp, h⟩
    exact ⟨p, hp, (each p (List.mem_range.1 hp)).1 h⟩
  · rintro ⟨p, hp, h⟩
    exact ⟨p, hp, (each p (List.mem_range.1 hp)).2 h⟩
theorem tok_count (lex : List S53) (hT : ∀ e ∈ lex, e.f0 ∈ T6) : (tokF lex R5).length = tot lex 5 := by
  have n1 := (allW_nodup lex hT 5).1
  have n2 : (tokF lex R5).Nodup := List.nodup_iff_pairwise_ne.2 ((tok_rise lex R5).imp fun {a b} h e => by rw [e] at h; exact ltT_irr b h)
  have h : ∀ x, x ∈ tokF lex R5 ↔ x ∈ allW lex 5 := fun x => by rw [mem_tok, mem_allW]
  have a := nodup_len _ _ n1 fun x hx => (h x).2 hx
  have b := nodup_len _ _ n2 fun x hx => (h x).1 hx
  rw [allW_len] at a b
  omega
section
variable (lex : List S53) (hT : ∀ e ∈ lex, e.f0 ∈ T6) (hx : lex.length ≤ 12) (t : List S47) (b0 : ByteArray) (i1 i2 : Int)
include hx
theorem seen_loop (p i : Nat) (seen : List S53) (hs : seen.length ≤ 12) (n : Nat) (hp : p < 5) (hi : i < lex.length) (hn : n ≤ 1000) (e : S53) (K : Nat)
    (h1 : seen.any (fun a => sameE a e) = true → ∀ k, K ≤ k → interlocutorlaw6_LexWords.l2 k R5 t (n : Int) (p : Int) seen ((i + 1 : Nat) : Int) b0 i1 i2 lex = some true)
    (h2 : ¬ seen.any (fun a => sameE a e) = true → ∀ k, K ≤ k → interlocutorlaw6_LexWords.l2 k R5 t ((n + 1 : Nat) : Int) (p : Int) (seen ++ [e]) ((i + 1 : Nat) : Int) b0 i1 i2 lex = some true) :
    ∀ (d k q : Nat) (b : Bool), q + d = seen.length → K + d < k → (b = true ∨ (seen.drop q).any (fun a => sameE a e) = true ↔ seen.any (fun a => sameE a e) = true) → interlocutorlaw6_LexWords.l3 k R5 t (n : Int) (p : Int) seen (i : Int) b (q : Int) b0 i1 i2 lex e.f0 e.f1 e.f2 = some true := by
  intro d
  induction d with
  | zero =>
    intro k q b hq hk hb
    obtain ⟨k, rfl⟩ : ∃ m, k = m + 1 := ⟨k - 1, by omega⟩
    rw [List.drop_eq_nil_of_le (by omega)] at hb
    simp only [interlocutorlaw6_LexWords.l3]
    rw [if_neg (by omega)]
    by_cases c : b = true
    · rw [if_pos c, wrap_succ i (by omega)]
      exact h1 (hb.1 (.inl c)) k (by omega)
    · rw [if_neg c, if_pos (by omega), wrap_succ n (by omega), wrap_succ i (by omega)]
      refine h2 (fun h => ?_) k (by omega)
      rcases hb.2 h with h | h
      · exact c h
      · simp at h
  | succ d ih =>
    intro k q b hq hk hb
    obtain ⟨k, rfl⟩ : ∃ m, k = m + 1 := ⟨k - 1, by omega⟩
    have hlt : q < seen.length := by omega
    simp only [interlocutorlaw6_LexWords.l3]
    rw [if_pos (by omega), wrap_succ q (by omega)]
    rw [List.drop_eq_getElem_cons hlt, List.any_cons, Bool.or_eq_true] at hb
    by_cases c : b = true
    · rw [if_pos c]
      exact ih k (q + 1) true (by omega) (by omega) ⟨fun _ => hb.1 (.inl c), fun _ => .inl rfl⟩
    · rw [if_neg c, if_pos (by omega), rdE seen q hlt]
      refine ih k (q + 1) (sameE seen[q] e) (by omega) (by omega) ⟨?_, ?_⟩
      · rintro (h | h)
        · exact hb.1 (.inr (.inl h))
        · exact hb.1 (.inr (.inr h))
      · intro h
        rcases hb.2 h with h | h | h
        · exact absurd h c
        · exact .inl h
        · exact .inr h
include hT
theorem entry_loop (p : Nat) (hp : p < 5) (n : Nat) (hn : n ≤ 100) (K : Nat)
    (hnext : ∀ k, K ≤ k → interlocutorlaw6_LexWords.l1 k R5 t ((n + (seenI lex p lex.length).length : Nat) : Int) ((p + 1 : Nat) : Int) b0 i1 i2 lex = some true) :
    ∀ (d k i : Nat), i + d = lex.length → K + d * 20 < k → interlocutorlaw6_LexWords.l2 k R5 t ((n + (seenI lex p i).length : Nat) : Int) (p : Int) (seenI lex p i) (i : Int) b0 i1 i2 lex = some true := by
  intro d
  induction d with
  | zero =>
    intro k i hi hk
    obtain ⟨k, rfl⟩ : ∃ m, k = m + 1 := ⟨k - 1, by omega⟩
    obtain rfl : i = lex.length := by omega
    simp only [interlocutorlaw6_LexWords.l2]
    rw [if_neg (by omega), wrap_succ p (by omega)]
    exact hnext k (by omega)
  | succ d ih =>
    intro k i hi hk
    obtain ⟨k, rfl⟩ : ∃ m, k = m + 2 := ⟨k - 2, by omega⟩
    have hlt : i < lex.length := by omega
    have hm : lex[i] ∈ lex := List.getElem_mem hlt
    obtain ⟨g1, g2⟩ := match_at (hT _ hm) p hp
    have hsz := (size_T6 (hT _ hm)).2
    obtain ⟨_, hsl, _⟩ := seenI_spec lex p i (by omega)
    have hsucc := seenI_succ lex p i hlt
    have ih' := fun k hk => ih k (i + 1) (by omega) hk
    have hws : wrap64 ((p : Int) + (lex[i].f0.size : Int)) = ((p + lex[i].f0.size : Nat) : Int) := by rw [wrapIn _ (by omega) (by omega)]; omega
    have skip : hereF R5 p (foldR lex[i].f0) = false → ∀ k, K + d * 20 < k → interlocutorlaw6_LexWords.j4 (k + 1) R5 t ((n + (seenI lex p i).length : Nat) : Int) (p : Int) (seenI lex p i) (i : Int) true b0 i1 i2 lex lex[i].f0 lex[i].f1 lex[i].f2 = some true := by
      intro hh k hk
      have e : seenI lex p (i + 1) = seenI lex p i := by
        rw [hsucc]
        unfold step
        rw [if_neg (by rw [hh]; exact Bool.false_ne_true)]
      simp only [interlocutorlaw6_LexWords.j4]
      rw [if_pos trivial, wrap_succ i (by omega), ← e]
      exact ih' k hk
    have take : hereF R5 p (foldR lex[i].f0) = true → ∀ k, K + d * 20 + 15 < k → interlocutorlaw6_LexWords.j4 (k + 1) R5 t ((n + (seenI lex p i).length : Nat) : Int) (p : Int) (seenI lex p i) (i : Int) false b0 i1 i2 lex lex[i].f0 lex[i].f1 lex[i].f2 = some true := by
      intro hh k hk
      simp only [interlocutorlaw6_LexWords.j4]
      rw [if_neg (by simp)]
      obtain ⟨K2, hK2⟩ : ∃ K2, K2 = K + d * 20 + 1 := ⟨_, rfl⟩
      refine seen_loop lex hx t b0 i1 i2 p i (seenI lex p i) (by omega) (n + (seenI lex p i).length) hp hlt (by omega) lex[i] K2 ?_ ?_ (seenI lex p i).length k 0 false (by omega) (by omega) ?_
      · intro hany k3 hk3
        have e : seenI lex p (i + 1) = seenI lex p i := by
          rw [hsucc]
          unfold step
          rw [if_pos hh, if_pos hany]
        have := ih' k3 (by omega)
        rw [e] at this
        exact this
      · intro hany k3 hk3
        have e : seenI lex p (i + 1) = seenI lex p i ++ [lex[i]] := by
          rw [hsucc]
          unfold step
          rw [if_pos hh, if_neg hany]
        have := ih' k3 (by omega)
        rw [e, List.length_append, List.length_singleton] at this
        exact this
      · rw [List.drop_zero]
        exact ⟨fun h => h.resolve_left (by simp), fun h => .inr h⟩
    rw [show k + 2 = (k + 1) + 1 from rfl]
    simp only [interlocutorlaw6_LexWords.l2]
    rw [if_pos (by omega), if_pos (by omega), rdE lex i hlt, hws]
    by_cases c : p + lex[i].f0.size ≤ 5
    · have g := g1 c
      rw [if_neg (by omega), if_pos (by omega), if_pos (by omega), if_pos (by omega), Int.toNat_natCast, Int.toNat_natCast]
      rw [show (⟨#[97, 97, 98, 97, 97]⟩ : ByteArray) = S5 from rfl, g]
      cases hh : hereF R5 p (foldR lex[i].f0) with
      | true => exact take hh k (by omega)
      | false => exact skip hh k (by omega)
    · rw [if_pos (by omega)]
      exact skip (g2 c) k (by omega)
theorem places_loop (ht : t = tokF lex R5) : ∀ (d k p : Nat), p + d = 5 → 4000000 + d * 400 < k → tot lex p ≤ 12 * p → interlocutorlaw6_LexWords.l1 k R5 t (tot lex p : Int) (p : Int) b0 i1 i2 lex = some true := by
  intro d
  induction d with
  | zero =>
    intro k p hp hk htp
    obtain ⟨k, rfl⟩ : ∃ m, k = m + 1 := ⟨k - 1, by omega⟩
    obtain rfl : p = 5 := by omega
    have hc := tok_count lex hT
    simp only [interlocutorlaw6_LexWords.l1]
    rw [if_neg (by omega), if_pos (by rw [ht, hc]), ref_tokens lex R5 (by decide) (by omega) (fun e he => ⟨(size_T6 (hT e he)).1, Nat.le_trans (size_T6 (hT e he)).2 (by decide)⟩) b0 i1 i2 [] [] k (by show 3020010 + 5 * (5 + 2) < k; omega), Option.bind_some, ht, same_ok _ (by omega) k (by omega), Option.bind_some]
  | succ d ih =>
    intro k p hp hk htp
    obtain ⟨k, rfl⟩ : ∃ m, k = m + 1 := ⟨k - 1, by omega⟩
    obtain ⟨_, hsl, _⟩ := seenI_spec lex p lex.length (Nat.le_refl _)
    obtain ⟨Q, hQ⟩ : ∃ Q, Q = 4000000 + d * 400 := ⟨_, rfl⟩
    rw [← hQ] at ih
    have hkQ : Q + 399 < k := by omega
    clear hQ hk
    obtain ⟨K, hK⟩ : ∃ K, K = Q + 1 := ⟨_, rfl⟩
    have hk2 : K + lex.length * 20 < k := by omega
    have hnx : ∀ k2, K ≤ k2 → interlocutorlaw6_LexWords.l1 k2 R5 t ((tot lex p + (seenI lex p lex.length).length : Nat) : Int) ((p + 1 : Nat) : Int) b0 i1 i2 lex = some true := fun k2 hk2 => ih k2 (p + 1) (by omega) (by omega) (by show tot lex p + (seenI lex p lex.length).length ≤ _; omega)
    clear hK
    simp only [interlocutorlaw6_LexWords.l1]
    rw [if_pos (by omega)]
    exact entry_loop lex hT hx t b0 i1 i2 p (by omega) (tot lex p) (by omega) K hnx lex.length k 0 (by omega) hk2
end
theorem T6_get (i : Int) (h0 : 0 ≤ i) (h1 : i < 6) : rdOf ByteArray.empty T6 i ∈ T6 := by
  unfold rdOf
  rw [List.getD_eq_getElem?_getD, List.getElem?_eq_getElem (by show i.toNat < 6; omega)]
  exact List.getElem_mem _
theorem last_part (b0 : ByteArray) (i1 i2 : Int) (lex : List S53) (hT : ∀ e ∈ lex, e.f0 ∈ T6) (hx : lex.length ≤ 12) (o : List Int) (k : Nat) (hk : 5000000 ≤ k) (hfold : ∃ o, interlocutorref3_Fold.f k S5 = some (R5, o)) (l0 : List Int) (x5 : Int) :
    interlocutorlaw6_LexWords.j1 (k + 1) l0 T6 x5 false b0 i1 i2 lex = some true := by
  obtain ⟨o, ho⟩ := hfold
  simp only [interlocutorlaw6_LexWords.j1]
  rw [if_neg (by simp), show (⟨#[97, 97, 98, 97, 97]⟩ : ByteArray) = S5 from rfl, ho, Option.bind_some]
  dsimp only
  rw [lex_Tokens.f_is b0 i1 i2 lex [] [] R5 (by decide) (by omega) (fun e he => Nat.le_trans (size_T6 (hT e he)).2 (by decide)), Option.bind_some]
  exact places_loop lex hT hx _ b0 i1 i2 rfl 5 k 0 (by omega) (by omega) (Nat.le_refl _)
theorem fold5 (k : Nat) (hk : 5000000 ≤ k) : ∃ o, interlocutorref3_Fold.f k S5 = some (R5, o) := by
  obtain ⟨o, ho⟩ := ref_fold6 S5 (by decide) k (by show 5 + 20 < k; omega)
  refine ⟨o, ?_⟩
  rw [ho, ← foldR_runes S5 (by decide)]
  have : foldR S5 = R5 := by kernel_rfl
  rw [this]
theorem lex_loop (l0 : List Int) (b0 : ByteArray) (i1 i2 : Int) : ∀ (d k i : Nat) (lex : List S53), i + d = 12 → 5000010 + 2 * d < k → lex.length = i → (∀ e ∈ lex, e.f0 ∈ T6) → interlocutorlaw6_LexWords.l0 k l0 T6 (i : Int) b0 i1 i2 lex = some true := by
  intro d
  induction d with
  | zero =>
    intro k i lex hi hk hl hT
    obtain ⟨k, rfl⟩ : ∃ m, k = m + 2 := ⟨k - 2, by omega⟩
    have hf : decide ((i : Int) < 12) = false := decide_eq_false (by omega)
    have fin := last_part b0 i1 i2 lex hT (by omega) [] k (by omega) (fold5 k (by omega)) l0 (i : Int)
    rw [show k + 2 = (k + 1) + 1 from rfl]
    simp only [interlocutorlaw6_LexWords.l0]
    rw [hf]
    by_cases c : (i : Int) < (l0.length : Int)
    · rw [if_pos c]
      exact fin
    · rw [if_neg c]
      exact fin
  | succ d ih =>
    intro k i lex hi hk hl hT
    obtain ⟨k, rfl⟩ : ∃ m, k = m + 2 := ⟨k - 2, by omega⟩
    have hf : decide ((i : Int) < 12) = true := decide_eq_true (by omega)
    rw [show k + 2 = (k + 1) + 1 from rfl]
    simp only [interlocutorlaw6_LexWords.l0]
    rw [hf]
    by_cases c : (i : Int) < (l0.length : Int)
    · rw [if_pos c]
      have hwl : wrap64 (1 + wrap64 ((rd l0 (i : Int)).tdiv 6) % 3) = 1 + wrap64 ((rd l0 (i : Int)).tdiv 6) % 3 := wrapIn _ (by omega) (by omega)
      have h6 : ((T6.length : Nat) : Int) = 6 := rfl
      have t0 : 0 ≤ rd l0 (i : Int) % 6 := by omega
      have t1 : rd l0 (i : Int) % 6 < 6 := by omega
      simp only [interlocutorlaw6_LexWords.j1]
      rw [if_pos trivial, if_pos (by omega), if_pos c, within_ok _ 6 (by omega) (by omega), Option.bind_some, if_pos t0, h6, if_pos t1, within_ok _ 3 (by omega) (by omega), Option.bind_some, within_ok _ 3 (by omega) (by omega), Option.bind_some, if_pos (by omega), wrap_succ i (by omega)]
      refine ih k (i + 1) _ (by omega) (by omega) (by rw [List.length_append, List.length_singleton]; omega) ?_
      intro e he
      rcases List.mem_append.1 he with he | he
      · exact hT e he
      · rw [List.mem_singleton.1 he]
        exact T6_get _ t0 t1
    · rw [if_neg c]
      exact last_part b0 i1 i2 lex hT (by omega) [] k (by omega) (fold5 k (by omega)) l0 (i : Int)
theorem LexWords : interlocutorlaw6_LexWords.Pure := by
  intro l0 _ _ _
  refine ⟨6000000, ?_⟩
  unfold interlocutorlaw6_LexWords.f
  rw [known_k _ (by omega), Option.bind_some, if_pos rfl]
  exact lex_loop l0 (⟨#[]⟩ : ByteArray) 0 0 12 6000000 0 [] (by omega) (by omega) rfl (fun e h => by cases h)
end Go.Proofs.Ytgbnfjhmobeloaa.Pure
