import Derived.Test.YtgbnfjhmobeloaaGx13
import Derived.Test.YtgbnfjhmobeloaaGx14
import Derived.Test.YtgbnfjhmobeloaaGx15
import Derived.Test.YtgbnfjhmobeloaaGx5
import Derived.Test.YtgbnfjhmobeloaaGx3
import Derived.Test.YtgbnfjhmobeloaaGx6
import Derived.Test.YtgbnfjhmobeloaaGx26
import Derived.Test.YtgbnfjhmobeloaaGx28
import Derived.Test.YtgbnfjhmobeloaaGx29
namespace Go.Proofs.Ytgbnfjhmobeloaa.Plain
open Go.RowKit Go.Proofs.Ytgbnfjhmobeloaa.G Go.Proofs.YtgbnfjhmobeloaaW.PrintWords Go.Proofs.YtgbnfjhmobeloaaW.PrintLast Go.Proofs.YtgbnfjhmobeloaaW.PrintMore
set_option linter.unusedVariables false
set_option linter.unusedSimpArgs false
def ltT (x y : S47) : Prop := cmpT x y < 0
instance (x y : S47) : Decidable (ltT x y) := inferInstanceAs (Decidable (_ < _))
theorem cmpI_self (a : Int) : cmpI a a = 0 := by unfold cmpI; rw [if_neg (by omega), if_neg (by omega)]
theorem cmpT_self (x : S47) : cmpT x x = 0 := by unfold cmpT or2; simp only [cmpI_self, if_true]
theorem cmpI_anti (a b : Int) : cmpI b a = - cmpI a b := by
 unfold cmpI
 repeat' split
 all_goals omega
theorem cmpT_anti (x y : S47) : cmpT y x = - cmpT x y := by
 unfold cmpT or2
 rw [cmpI_anti x.f0 y.f0, cmpI_anti x.f1 y.f1, cmpI_anti x.f2 y.f2, cmpI_anti x.f3 y.f3, cmpI_anti x.f4 y.f4]
 repeat' split
 all_goals omega
theorem ltT_f0 {x y : S47} (h : x.f0 < y.f0) : ltT x y := by
 unfold ltT cmpT or2
 have e : cmpI x.f0 y.f0 = -1 := if_pos h
 rw [e, if_neg (by omega)]
 omega
theorem sort_of_lt {l : List S47} (h : l.Pairwise ltT) : sortT l = l := by
 unfold sortT
 refine List.mergeSort_of_pairwise (h.imp ?_)
 intro a b hab
 have e := cmpT_anti a b
 unfold ltT at hab
 show (!(decide (cmpT b a < 0))) = true
 rw [decide_eq_false (by omega)]
 rfl
theorem dedup_of_lt : ∀ {l : List S47}, l.Pairwise ltT → dedup l = l
 | [], _ => rfl
 | [_], _ => rfl
 | x :: y :: l, h => by
  have h1 := List.pairwise_cons.1 h
  have hne : ¬ sameT x y = true := fun e => by
   have hxy := h1.1 y (List.mem_cons_self ..)
   rw [(sameT_iff x y).1 e] at hxy
   unfold ltT at hxy
   rw [cmpT_self] at hxy
   omega
  rw [show dedup (x :: y :: l) = if sameT x y = true then dedup (y :: l) else x :: dedup (y :: l) from rfl, if_neg hne, dedup_of_lt h1.2]
theorem tok_of_lt {lex : List S53} {l : List Int} (h : (rawF l (wordsF lex) l.length).Pairwise ltT) : tokF lex l = rawF l (wordsF lex) l.length := by
 unfold tokF
 rw [sort_of_lt h, dedup_of_lt h]
theorem digit_range {r : Int} (h : isDigit r = true) : 48 ≤ r ∧ r ≤ 57 := by
 unfold isDigit at h
 rw [Bool.and_eq_true, decide_eq_true_eq, decide_eq_true_eq] at h
 exact h
end Go.Proofs.Ytgbnfjhmobeloaa.Plain

namespace Go.Proofs.Ytgbnfjhmobeloaa.Plain
open Go.RowKit Go.Proofs.Ytgbnfjhmobeloaa.G Go.Proofs.YtgbnfjhmobeloaaW.PrintWords Go.Proofs.YtgbnfjhmobeloaaW.PrintLast Go.Proofs.YtgbnfjhmobeloaaW.PrintMore
set_option linter.unusedVariables false
set_option linter.unusedSimpArgs false
theorem within_ok (a n : Int) (hn : 0 < n) (hn2 : n ≤ 4611686018427387904) : interlocutorlaw6_within.f a n = some (a % n) := by
 unfold interlocutorlaw6_within.f
 rw [if_neg (by omega)]
 have h1 := Int.emod_nonneg a (show n ≠ 0 by omega)
 have h2 := Int.emod_lt_of_pos a hn
 rw [Int.tmod_eq_emod]
 have hn3 : (n.natAbs : Int) = n := by omega
 split
 ·rw [if_neg (by omega)]
  simp
 ·rw [hn3, if_pos (by omega), wrapIn _ (by omega) (by omega)]
  congr 1
  omega
theorem wrap_succ (i : Nat) (h : i < 1000000000000000000) : wrap64 ((i : Int) + 1) = ((i + 1 : Nat) : Int) := by rw [wrapIn _ (by omega) (by omega)]; omega
theorem rdT_get (l : List S47) (i : Nat) (h : i < l.length) : rd_T47 l (i : Int) = l[i] := by
 unfold rd_T47
 rw [List.getD_eq_getElem?_getD, show ((i : Int)).toNat = i from rfl, List.getElem?_eq_getElem h]
 rfl
def kLex : List S53 := [⟨(⟨#[109, 97, 121]⟩ : ByteArray), 1, 5⟩]
def kText : List Int := [32, 49, 50, 109, 97, 121]
def kToks : List S47 := rawF kText (wordsF kLex) 6
theorem known_raw : kToks = [⟨0, 3, 0, 12, 2⟩, ⟨1, 3, 0, 12, 2⟩, ⟨2, 3, 0, 2, 1⟩, ⟨3, 6, 1, 5, 0⟩] := by kernel_rfl
theorem known_toks : lex_Tokens.f (⟨#[]⟩ : ByteArray) 0 0 kLex [] [] kText = some [⟨0, 3, 0, 12, 2⟩, ⟨1, 3, 0, 12, 2⟩, ⟨2, 3, 0, 2, 1⟩, ⟨3, 6, 1, 5, 0⟩] := by
 have e : rawF kText (wordsF kLex) kText.length = kToks := rfl
 rw [lex_Tokens.f_is _ _ _ _ _ _ _ (by decide) (by decide) (fun e he => by
  obtain rfl := List.mem_singleton.1 he
  decide), tok_of_lt (by rw [e, known_raw]; decide +kernel), e, known_raw]
theorem known_ok : interlocutorlaw6_known.f 30 = some true := by
 have h1 : (interlocutorref3_Fold.f 30 (⟨#[32, 49, 50, 109, 97, 121]⟩ : ByteArray)).map (fun p => p.1) = some kText := by kernel_rfl
 have h2 : lex_Tokens.f (⟨#[]⟩ : ByteArray) 0 0 kLex [] [] [] = some [] := by
  rw [lex_Tokens.f_is _ _ _ _ _ _ _ (by decide) (by decide) (fun e he => by
   obtain rfl := List.mem_singleton.1 he
   decide), tok_of_lt (by exact List.Pairwise.nil)]
  rfl
 obtain ⟨p, hp, hp1⟩ := Option.map_eq_some_iff.1 h1
 unfold interlocutorlaw6_known.f
 rw [Option.bind_some, hp, Option.bind_some, hp1]
 rw [show ([(⟨(⟨#[109, 97, 121]⟩ : ByteArray), 1, 5⟩ : S53)] : List (S53)) = kLex from rfl, known_toks, Option.bind_some]
 rw [h2]
 change _ = _
 kernel_rfl
theorem known_k (k : Nat) (h : 30 ≤ k) : interlocutorlaw6_known.f k = some true := at_rounds (fun k => interlocutorlaw6_known.mono k) h known_ok
end Go.Proofs.Ytgbnfjhmobeloaa.Plain

namespace Go.Proofs.Ytgbnfjhmobeloaa.Plain
open Go.RowKit Go.Proofs.Ytgbnfjhmobeloaa.G Go.Proofs.YtgbnfjhmobeloaaW.PrintWords Go.Proofs.YtgbnfjhmobeloaaW.PrintLast Go.Proofs.YtgbnfjhmobeloaaW.PrintMore
set_option linter.unusedVariables false
set_option linter.unusedSimpArgs false
theorem in_ok (a b c : Int) : interlocutorref3_in.f a b c = some (decide (b ≤ a ∧ a ≤ c)) := by
 unfold interlocutorref3_in.f
 split
 ·congr 1
  rw [decide_eq_decide]
  omega
 ·congr 1
  symm
  rw [decide_eq_false_iff_not]
  omega
theorem blank_ok (r : Int) : interlocutorref3_blank.f r = some (decide (r = 9 ∨ r = 160 ∨ (8192 ≤ r ∧ r ≤ 8202) ∨ r = 8239 ∨ r = 8287 ∨ r = 12288)) := by
 unfold interlocutorref3_blank.f
 rw [in_ok]
 simp only [Option.bind_some]
 repeat' split
 all_goals
  congr 1
  rw [Bool.eq_iff_iff]
  simp only [beq_iff_eq, decide_eq_true_eq, true_iff] at *
  omega
theorem dash_ok (r : Int) : interlocutorref3_dash.f r = some (decide ((8208 ≤ r ∧ r ≤ 8213) ∨ r = 8722)) := by
 unfold interlocutorref3_dash.f
 rw [in_ok]
 simp only [Option.bind_some]
 repeat' split
 all_goals
  congr 1
  rw [Bool.eq_iff_iff]
  simp only [beq_iff_eq, decide_eq_true_eq, true_iff] at *
  omega
theorem quote_ok (r : Int) : interlocutorref3_quote.f r = some (decide (r = 8216 ∨ r = 8217 ∨ r = 700)) := by
 unfold interlocutorref3_quote.f
 repeat' split
 all_goals
  congr 1
  rw [Bool.eq_iff_iff]
  simp only [beq_iff_eq, decide_eq_true_eq, true_iff]
  omega
theorem digit_ok (r : Int) : interlocutorref3_digit.f r = some (if 1632 ≤ r ∧ r ≤ 1641 then r - 1632 else if 1776 ≤ r ∧ r ≤ 1785 then r - 1776 else if 2406 ≤ r ∧ r ≤ 2415 then r - 2406 else -1) := by
 unfold interlocutorref3_digit.f
 rw [in_ok, in_ok, in_ok]
 simp only [Option.bind_some, decide_eq_true_eq]
 repeat' split
 all_goals first
  | rfl
  | (rw [wrapIn _ (by omega) (by omega)])
  | omega
set_option maxHeartbeats 2000000 in
theorem ref_rune (a : Int) (h0 : -9223372036854775808 ≤ a) (h1 : a ≤ 9223372036854775807) : interlocutorref3_Rune.f 9 a = some (runeP a) := by
 have j2t : ∀ r : Int, interlocutorref3_Rune.j2 7 r true = some (wrap64 (r + 32)) := fun r => by simp [interlocutorref3_Rune.j2]
 have j2f : ∀ (k : Nat) (r : Int), interlocutorref3_Rune.j2 (k + 1) r false = some (if 1024 ≤ r ∧ r ≤ 1039 then wrap64 (r + 80) else r) := fun k r => by
  simp only [interlocutorref3_Rune.j2]
  rw [if_neg (by simp), in_ok]
  simp only [Option.bind_some, decide_eq_true_eq]
  split <;> rfl
 have j2a : ∀ (k : Nat) (r : Int) (b : Bool), interlocutorref3_Rune.j2 (k + 1) r b = some (if b = true then wrap64 (r + 32) else if 1024 ≤ r ∧ r ≤ 1039 then wrap64 (r + 80) else r) := fun k r b => by
  cases b
  ·rw [j2f]; simp
  ·simp [interlocutorref3_Rune.j2]
 have j1a : ∀ (k : Nat) (r : Int) (b : Bool), interlocutorref3_Rune.j1 (k + 2) r b = some (if b = true ∨ (913 ≤ r ∧ r ≤ 937 ∧ r ≠ 930) ∨ (1040 ≤ r ∧ r ≤ 1071) then wrap64 (r + 32) else if 1024 ≤ r ∧ r ≤ 1039 then wrap64 (r + 80) else r) := fun k r b => by
  simp only [interlocutorref3_Rune.j1]
  rw [in_ok, in_ok, j2a]
  simp only [Option.bind_some, j2a, decide_eq_true_eq]
  repeat' split
  all_goals first
   | rfl
   | (exfalso; simp_all; done)
   | (exfalso; simp_all; omega)
 have j0a : ∀ (k : Nat) (r : Int), -9223372036854775808 ≤ r → r ≤ 9223372036854775807 → interlocutorref3_Rune.j0 (k + 3) r = some (
   if r = 9 ∨ r = 160 ∨ (8192 ≤ r ∧ r ≤ 8202) ∨ r = 8239 ∨ r = 8287 ∨ r = 12288 then 32
   else if (8208 ≤ r ∧ r ≤ 8213) ∨ r = 8722 then 45
   else if r = 8216 ∨ r = 8217 ∨ r = 700 then 39
   else if 1632 ≤ r ∧ r ≤ 1641 then r - 1632 + 48
   else if 1776 ≤ r ∧ r ≤ 1785 then r - 1776 + 48
   else if 2406 ≤ r ∧ r ≤ 2415 then r - 2406 + 48
   else if (65 ≤ r ∧ r ≤ 90) ∨ (192 ≤ r ∧ r ≤ 222 ∧ r ≠ 215) ∨ (913 ≤ r ∧ r ≤ 937 ∧ r ≠ 930) ∨ (1040 ≤ r ∧ r ≤ 1071) then r + 32
   else if 1024 ≤ r ∧ r ≤ 1039 then r + 80
   else r) := fun k r g0 g1 => by
  simp only [interlocutorref3_Rune.j0]
  rw [blank_ok, dash_ok, quote_ok, digit_ok, in_ok, in_ok]
  simp only [Option.bind_some, decide_eq_true_eq, j2a, j1a]
  by_cases c1 : r = 9 ∨ r = 160 ∨ (8192 ≤ r ∧ r ≤ 8202) ∨ r = 8239 ∨ r = 8287 ∨ r = 12288
  ·rw [if_pos c1, if_pos c1]
  rw [if_neg c1, if_neg c1]
  by_cases c2 : (8208 ≤ r ∧ r ≤ 8213) ∨ r = 8722
  ·rw [if_pos c2, if_pos c2]
  rw [if_neg c2, if_neg c2]
  by_cases c3 : r = 8216 ∨ r = 8217 ∨ r = 700
  ·rw [if_pos c3, if_pos c3]
  rw [if_neg c3, if_neg c3]
  by_cases c4 : 1632 ≤ r ∧ r ≤ 1641
  ·simp only [if_pos c4]
   rw [if_pos (by omega), wrapIn _ (by omega) (by omega)]
   congr 1
   omega
  simp only [if_neg c4]
  by_cases c5 : 1776 ≤ r ∧ r ≤ 1785
  ·simp only [if_pos c5]
   rw [if_pos (by omega), wrapIn _ (by omega) (by omega)]
   congr 1
   omega
  simp only [if_neg c5]
  by_cases c6 : 2406 ≤ r ∧ r ≤ 2415
  ·simp only [if_pos c6]
   rw [if_pos (by omega), wrapIn _ (by omega) (by omega)]
   congr 1
   omega
  simp only [if_neg c6]
  rw [if_neg (by omega)]
  by_cases c7 : 65 ≤ r ∧ r ≤ 90
  ·rw [if_pos c7, if_pos c7, if_pos (Or.inl c7), wrapIn _ (by omega) (by omega)]
  rw [if_neg c7]
  by_cases c8 : 192 ≤ r ∧ r ≤ 222
  ·rw [if_pos c8]
   by_cases c9 : r = 215
   ·subst c9; rfl
   ·rw [if_pos (.inl (by simpa using c9)), if_pos (.inr (.inl ⟨c8.1, c8.2, c9⟩)), wrapIn _ (by omega) (by omega)]
  rw [if_neg c8]
  by_cases c10 : (913 ≤ r ∧ r ≤ 937 ∧ r ≠ 930) ∨ (1040 ≤ r ∧ r ≤ 1071)
  ·rw [if_pos (.inr c10), if_pos (.inr (.inr c10)), wrapIn _ (by omega) (by omega)]
  simp only [Bool.false_eq_true, false_or, if_neg c10]
  rw [if_neg (show ¬ ((65 ≤ r ∧ r ≤ 90) ∨ (192 ≤ r ∧ r ≤ 222 ∧ r ≠ 215) ∨ (913 ≤ r ∧ r ≤ 937 ∧ r ≠ 930) ∨ (1040 ≤ r ∧ r ≤ 1071)) by omega)]
  split
  ·rw [wrapIn _ (by omega) (by omega)]
  ·rfl
 unfold interlocutorref3_Rune.f
 rw [in_ok]
 simp only [Option.bind_some, decide_eq_true_eq]
 unfold runeP
 simp only []
 by_cases c : 65281 ≤ a ∧ a ≤ 65374
 ·rw [if_pos c, wrapIn _ (by omega) (by omega), j0a 6 _ (by omega) (by omega)]
  simp only [if_pos c]
 ·rw [if_neg c, j0a 6 _ (by omega) (by omega)]
  simp only [if_neg c]
theorem ref_rune_k (k : Nat) (hk : 9 ≤ k) (a : Int) (h0 : -9223372036854775808 ≤ a) (h1 : a ≤ 9223372036854775807) : interlocutorref3_Rune.f k a = some (runeP a) :=
 at_rounds (fun k => interlocutorref3_Rune.mono a k) hk (ref_rune a h0 h1)
end Go.Proofs.Ytgbnfjhmobeloaa.Plain

namespace Go.Proofs.Ytgbnfjhmobeloaa.Plain
open Go.RowKit Go.Proofs.Ytgbnfjhmobeloaa.G Go.Proofs.YtgbnfjhmobeloaaW.PrintWords Go.Proofs.YtgbnfjhmobeloaaW.PrintLast Go.Proofs.YtgbnfjhmobeloaaW.PrintMore
set_option linter.unusedVariables false
set_option linter.unusedSimpArgs false
def ctn (t : List Int) (k : Nat) : Bool := match t[k]? with | some b => b / 64 == 2 | none => false
def decL (l : List Int) : Int × Nat :=
 let b0 := l.getD 0 0
 if b0 < 128 then (b0, 1)
 else if b0 / 32 = 6 ∧ ctn l 1 = true then
  let c := b0 % 32 * 64 + l.getD 1 0 % 64
  if 128 ≤ c then (c, 2) else (65533, 1)
 else if b0 / 16 = 14 ∧ ctn l 1 = true ∧ ctn l 2 = true then
  let c := b0 % 16 * 4096 + l.getD 1 0 % 64 * 64 + l.getD 2 0 % 64
  if 2048 ≤ c ∧ ¬ (55296 ≤ c ∧ c ≤ 57343) then (c, 3) else (65533, 1)
 else if b0 / 8 = 30 ∧ ctn l 1 = true ∧ ctn l 2 = true ∧ ctn l 3 = true then
  let c := b0 % 8 * 262144 + l.getD 1 0 % 64 * 4096 + l.getD 2 0 % 64 * 64 + l.getD 3 0 % 64
  if 65536 ≤ c ∧ c ≤ 1114111 then (c, 4) else (65533, 1)
 else (65533, 1)
theorem get_bytes (s : ByteArray) (i : Nat) (h : i < s.size) : ((s.get! i).toNat : Int) = (bytesOf s).getD i 0 := by
 have h' : i < s.data.toList.length := by rw [data_length]; exact h
 unfold bytesOf
 rw [List.getD_eq_getElem?_getD, List.getElem?_map, List.getElem?_eq_getElem h']
 simp only [Option.map_some, Option.getD_some]
 congr 2
 have hs : i < s.data.size := by simpa using h'
 simp only [ByteArray.get!]
 rw [getElem!_pos s.data i hs]
 rfl
theorem byte_range (s : ByteArray) : ∀ x ∈ bytesOf s, 0 ≤ x ∧ x ≤ 255 := by
 intro x hx
 unfold bytesOf at hx
 obtain ⟨b, _, rfl⟩ := List.mem_map.1 hx
 have := b.toNat_lt
 omega
theorem getD_drop (l : List Int) (i k : Nat) : (l.drop i).getD k 0 = l.getD (i + k) 0 := by
 rw [List.getD_eq_getElem?_getD, List.getD_eq_getElem?_getD, List.getElem?_drop]
theorem getD_range (l : List Int) (h : ∀ x ∈ l, 0 ≤ x ∧ x ≤ 255) (k : Nat) : 0 ≤ l.getD k 0 ∧ l.getD k 0 ≤ 255 := by
 rw [List.getD_eq_getElem?_getD]
 rcases Nat.lt_or_ge k l.length with hk | hk
 ·rw [List.getElem?_eq_getElem hk]
  exact h _ (List.getElem_mem hk)
 ·rw [List.getElem?_eq_none hk]
  simp
theorem ctn_iff (l : List Int) (k : Nat) : ctn l k = true ↔ k < l.length ∧ l.getD k 0 / 64 = 2 := by
 unfold ctn
 rw [List.getD_eq_getElem?_getD]
 rcases Nat.lt_or_ge k l.length with hk | hk
 ·rw [List.getElem?_eq_getElem hk]
  simp [hk]
 ·rw [List.getElem?_eq_none hk]
  first | (simp; done) | (simp; omega)
theorem decode_core (n0 n1 n2 n3 : Nat) (k1 k2 k3 : Bool) (a0 a1 a2 a3 : Int) (e0 : (n0 : Int) = a0) (g1 : k1 = true → (n1 : Int) = a1) (g2 : k2 = true → (n2 : Int) = a2) (g3 : k3 = true → (n3 : Int) = a3) (r0 : 0 ≤ a0 ∧ a0 ≤ 255) (r1 : 0 ≤ a1 ∧ a1 ≤ 255) (r2 : 0 ≤ a2 ∧ a2 ≤ 255) (r3 : 0 ≤ a3 ∧ a3 ≤ 255)
  (p : Nat × Nat) (q : Int × Nat)
  (hp : p = if n0 < 128 then (n0, 1) else if (n0 / 32 == 6 && k1) = true then (if 128 ≤ n0 % 32 * 64 + n1 % 64 then (n0 % 32 * 64 + n1 % 64, 2) else (Utf8.runeError, 1)) else if (n0 / 16 == 14 && k1 && k2) = true then (if (decide (2048 ≤ n0 % 16 * 4096 + n1 % 64 * 64 + n2 % 64) && Utf8.valid ((n0 % 16 * 4096 + n1 % 64 * 64 + n2 % 64 : Nat) : Int)) = true then (n0 % 16 * 4096 + n1 % 64 * 64 + n2 % 64, 3) else (Utf8.runeError, 1)) else if (n0 / 8 == 30 && k1 && k2 && k3) = true then (if (decide (65536 ≤ n0 % 8 * 262144 + n1 % 64 * 4096 + n2 % 64 * 64 + n3 % 64) && Utf8.valid ((n0 % 8 * 262144 + n1 % 64 * 4096 + n2 % 64 * 64 + n3 % 64 : Nat) : Int)) = true then (n0 % 8 * 262144 + n1 % 64 * 4096 + n2 % 64 * 64 + n3 % 64, 4) else (Utf8.runeError, 1)) else (Utf8.runeError, 1))
  (hq : q = if a0 < 128 then (a0, 1) else if a0 / 32 = 6 ∧ k1 = true then (if 128 ≤ a0 % 32 * 64 + a1 % 64 then (a0 % 32 * 64 + a1 % 64, 2) else (65533, 1)) else if a0 / 16 = 14 ∧ k1 = true ∧ k2 = true then (if 2048 ≤ a0 % 16 * 4096 + a1 % 64 * 64 + a2 % 64 ∧ ¬ (55296 ≤ a0 % 16 * 4096 + a1 % 64 * 64 + a2 % 64 ∧ a0 % 16 * 4096 + a1 % 64 * 64 + a2 % 64 ≤ 57343) then (a0 % 16 * 4096 + a1 % 64 * 64 + a2 % 64, 3) else (65533, 1)) else if a0 / 8 = 30 ∧ k1 = true ∧ k2 = true ∧ k3 = true then (if 65536 ≤ a0 % 8 * 262144 + a1 % 64 * 4096 + a2 % 64 * 64 + a3 % 64 ∧ a0 % 8 * 262144 + a1 % 64 * 4096 + a2 % 64 * 64 + a3 % 64 ≤ 1114111 then (a0 % 8 * 262144 + a1 % 64 * 4096 + a2 % 64 * 64 + a3 % 64, 4) else (65533, 1)) else (65533, 1)) :
  (p.1 : Int) = q.1 ∧ p.2 = q.2 := by
 by_cases c1 : n0 < 128
 ·rw [if_pos c1] at hp
  rw [if_pos (by omega)] at hq
  rw [hp, hq]
  exact ⟨e0, rfl⟩
 rw [if_neg c1] at hp
 rw [if_neg (by omega)] at hq
 by_cases c2 : a0 / 32 = 6 ∧ k1 = true
 ·have h1 := g1 c2.2
  rw [if_pos c2] at hq
  rw [if_pos (by rw [c2.2, Bool.and_true, beq_iff_eq]; omega)] at hp
  by_cases c3 : 128 ≤ a0 % 32 * 64 + a1 % 64
  ·rw [if_pos c3] at hq
   rw [if_pos (by omega)] at hp
   rw [hp, hq]
   exact ⟨by simp only []; omega, rfl⟩
  ·rw [if_neg c3] at hq
   rw [if_neg (by omega)] at hp
   rw [hp, hq]
   exact ⟨rfl, rfl⟩
 rw [if_neg c2] at hq
 rw [if_neg (by rw [Bool.and_eq_true, beq_iff_eq]; intro hh; exact c2 ⟨by omega, hh.2⟩)] at hp
 by_cases c4 : a0 / 16 = 14 ∧ k1 = true ∧ k2 = true
 ·have h1 := g1 c4.2.1
  have h2 := g2 c4.2.2
  rw [if_pos c4] at hq
  rw [if_pos (by rw [c4.2.1, c4.2.2, Bool.and_true, Bool.and_true, beq_iff_eq]; omega)] at hp
  unfold Utf8.valid Utf8.runeError at hp
  by_cases c5 : 2048 ≤ a0 % 16 * 4096 + a1 % 64 * 64 + a2 % 64 ∧ ¬ (55296 ≤ a0 % 16 * 4096 + a1 % 64 * 64 + a2 % 64 ∧ a0 % 16 * 4096 + a1 % 64 * 64 + a2 % 64 ≤ 57343)
  ·rw [if_pos c5] at hq
   rw [if_pos (by simp only [Bool.and_eq_true, Bool.or_eq_true, decide_eq_true_eq]; omega)] at hp
   rw [hp, hq]
   exact ⟨by simp only []; omega, rfl⟩
  ·rw [if_neg c5] at hq
   rw [if_neg (by simp only [Bool.and_eq_true, Bool.or_eq_true, decide_eq_true_eq]; omega)] at hp
   rw [hp, hq]
   exact ⟨rfl, rfl⟩
 rw [if_neg c4] at hq
 rw [if_neg (by simp only [Bool.and_eq_true, beq_iff_eq]; intro hh; exact c4 ⟨by omega, hh.1.2, hh.2⟩)] at hp
 by_cases c6 : a0 / 8 = 30 ∧ k1 = true ∧ k2 = true ∧ k3 = true
 ·have h1 := g1 c6.2.1
  have h2 := g2 c6.2.2.1
  have h3 := g3 c6.2.2.2
  rw [if_pos c6] at hq
  rw [if_pos (by rw [c6.2.1, c6.2.2.1, c6.2.2.2, Bool.and_true, Bool.and_true, Bool.and_true, beq_iff_eq]; omega)] at hp
  unfold Utf8.valid Utf8.runeError at hp
  by_cases c7 : 65536 ≤ a0 % 8 * 262144 + a1 % 64 * 4096 + a2 % 64 * 64 + a3 % 64 ∧ a0 % 8 * 262144 + a1 % 64 * 4096 + a2 % 64 * 64 + a3 % 64 ≤ 1114111
  ·rw [if_pos c7] at hq
   rw [if_pos (by simp only [Bool.and_eq_true, Bool.or_eq_true, decide_eq_true_eq]; omega)] at hp
   rw [hp, hq]
   exact ⟨by simp only []; omega, rfl⟩
  ·rw [if_neg c7] at hq
   rw [if_neg (by simp only [Bool.and_eq_true, Bool.or_eq_true, decide_eq_true_eq]; omega)] at hp
   rw [hp, hq]
   exact ⟨rfl, rfl⟩
 rw [if_neg c6] at hq
 rw [if_neg (by simp only [Bool.and_eq_true, beq_iff_eq]; intro hh; exact c6 ⟨by omega, hh.1.1.2, hh.1.2, hh.2⟩)] at hp
 rw [hp, hq]
 exact ⟨rfl, rfl⟩
theorem decode_eq (s : ByteArray) (pos : Nat) (h : pos < s.size) : ((Utf8.decode s pos).1 : Int) = (decL ((bytesOf s).drop pos)).1 ∧ (Utf8.decode s pos).2 = (decL ((bytesOf s).drop pos)).2 := by
 have hl := bytesOf_length s
 have hb := byte_range s
 have e0 : ((s.get! (pos + 0)).toNat : Int) = ((bytesOf s).drop pos).getD 0 0 := by rw [getD_drop]; exact get_bytes s _ (by omega)
 have hc : ∀ k : Nat, (decide (pos + k < s.size) && (s.get! (pos + k)).toNat / 64 == 2) = ctn ((bytesOf s).drop pos) k := by
  intro k
  rw [Bool.eq_iff_iff, ctn_iff, List.length_drop, hl, getD_drop]
  simp only [Bool.and_eq_true, decide_eq_true_eq, beq_iff_eq]
  constructor
  ·rintro ⟨h1, h2⟩
   refine ⟨by omega, ?_⟩
   rw [← get_bytes s (pos + k) h1]
   omega
  ·rintro ⟨h1, h2⟩
   refine ⟨by omega, ?_⟩
   rw [← get_bytes s (pos + k) (by omega)] at h2
   omega
 have hg : ∀ k : Nat, ctn ((bytesOf s).drop pos) k = true → ((s.get! (pos + k)).toNat : Int) = ((bytesOf s).drop pos).getD k 0 := by
  intro k hk
  rw [ctn_iff, List.length_drop, hl] at hk
  rw [getD_drop]
  exact get_bytes s _ (by omega)
 have hr := fun k => getD_range ((bytesOf s).drop pos) (fun x hx => hb x (List.mem_of_mem_drop hx)) k
 have r0 := hr 0
 have r1 := hr 1
 have r2 := hr 2
 have r3 := hr 3
 exact decode_core (s.get! (pos + 0)).toNat (s.get! (pos + 1)).toNat (s.get! (pos + 2)).toNat (s.get! (pos + 3)).toNat _ _ _ _ _ _ _ e0 (hg 1) (hg 2) (hg 3) r0 r1 r2 r3 _ _ (by simp only [Utf8.decode, hc, ge_iff_le]) (by simp only [decL])
end Go.Proofs.Ytgbnfjhmobeloaa.Plain

namespace Go.Proofs.Ytgbnfjhmobeloaa.Plain
open Go.RowKit Go.Proofs.Ytgbnfjhmobeloaa.G Go.Proofs.YtgbnfjhmobeloaaW.PrintWords Go.Proofs.YtgbnfjhmobeloaaW.PrintLast Go.Proofs.YtgbnfjhmobeloaaW.PrintMore
set_option linter.unusedVariables false
set_option linter.unusedSimpArgs false
theorem decL_len (l : List Int) (h : 0 < l.length) : 1 ≤ (decL l).2 ∧ (decL l).2 ≤ 4 ∧ (decL l).2 ≤ l.length := by
 unfold decL
 simp only []
 split
 ·exact ⟨by simp, by simp, by simp only []; omega⟩
 ·split
  ·rename_i hc
   rw [ctn_iff] at hc
   split
   ·exact ⟨by simp, by simp, by simp only []; omega⟩
   ·exact ⟨by simp, by simp, by simp only []; omega⟩
  ·split
   ·rename_i hc
    rw [ctn_iff, ctn_iff] at hc
    split
    ·exact ⟨by simp, by simp, by simp only []; omega⟩
    ·exact ⟨by simp, by simp, by simp only []; omega⟩
   ·split
    ·rename_i hc
     rw [ctn_iff, ctn_iff, ctn_iff] at hc
     split
     ·exact ⟨by simp, by simp, by simp only []; omega⟩
     ·exact ⟨by simp, by simp, by simp only []; omega⟩
    ·exact ⟨by simp, by simp, by simp only []; omega⟩
def Sign (r : Int) : Prop := 0 ≤ r ∧ r ≤ 1114111 ∧ ¬ (55296 ≤ r ∧ r ≤ 57343)
theorem decL_sign (l : List Int) (hb : ∀ x ∈ l, 0 ≤ x ∧ x ≤ 255) : Sign (decL l).1 := by
 have r0 := getD_range l hb 0
 have r1 := getD_range l hb 1
 have r2 := getD_range l hb 2
 unfold decL Sign
 simp only []
 split
 ·simp only []; omega
 ·split
  ·split <;> (simp only []; omega)
  ·split
   ·split <;> (simp only []; omega)
   ·split
    ·split <;> (simp only []; omega)
    ·simp only []; omega
def sgn : Nat → List Int → Int → List (Int × Int)
 | 0, _, _ => []
 | f + 1, l, p => if 0 < l.length then (p, (decL l).1) :: sgn f (l.drop (decL l).2) (p + (decL l).2) else []
def sgnOf (s : ByteArray) : List (Int × Int) := sgn s.size (bytesOf s) 0
theorem signs_eq (s : ByteArray) : ∀ (f pos : Nat), (signsFrom s f pos).map (fun p => ((p.1 : Int), (p.2 : Int))) = sgn f ((bytesOf s).drop pos) pos := by
 intro f
 induction f with
 | zero => intro pos; rfl
 | succ f ih =>
  intro pos
  have hl := bytesOf_length s
  simp only [signsFrom, sgn]
  by_cases h : pos < s.size
  ·rw [if_pos h, if_pos (by rw [List.length_drop]; omega)]
   obtain ⟨e1, e2⟩ := decode_eq s pos h
   rw [List.map_cons, ih, e2, List.drop_drop]
   simp only [e1]
   rw [show ((pos + (decL ((bytesOf s).drop pos)).2 : Nat) : Int) = (pos : Int) + ((decL ((bytesOf s).drop pos)).2 : Int) by omega]
  ·rw [if_neg h, if_neg (by rw [List.length_drop]; omega)]
   rfl
theorem fold_eq (s : ByteArray) (h : s.size < 17592186044415) : fold_Fold.f s = some ((sgnOf s).map (fun p => runeP p.2), (sgnOf s).map (fun p => p.1) ++ [(s.size : Int)]) := by
 unfold fold_Fold.f
 rw [if_pos h]
 have e := signs_eq s s.size 0
 rw [List.drop_zero] at e
 unfold signsOf sgnOf
 rw [show ((0 : Nat) : Int) = 0 from rfl] at e
 rw [← e, List.map_map, List.map_map]
 rfl
theorem bt_getD (s : ByteArray) (i : Nat) : bt s (i : Int) = (bytesOf s).getD i 0 := by
 rw [← rd_bytesOf]
 unfold rd
 rfl
theorem size_ok (c : Int) (h0 : 0 ≤ c) (h1 : c ≤ 255) : interlocutorref3_size.f 5 c = some (if c < 128 then 1 else if 194 ≤ c ∧ c ≤ 223 then 2 else if 224 ≤ c ∧ c ≤ 239 then 3 else if 240 ≤ c ∧ c ≤ 244 then 4 else 0) := by
 have j1 : ∀ (k : Nat) (b : Bool), interlocutorref3_size.j1 (k + 1) c b = some (if b = true then 3 else if 240 ≤ c ∧ c ≤ 244 then 4 else 0) := fun k b => by
  simp only [interlocutorref3_size.j1]
  repeat' split
  all_goals first | rfl | (exfalso; omega)
 have j0 : ∀ (k : Nat) (b : Bool), interlocutorref3_size.j0 (k + 2) c b = some (if b = true then 2 else if 224 ≤ c ∧ c ≤ 239 then 3 else if 240 ≤ c ∧ c ≤ 244 then 4 else 0) := fun k b => by
  simp only [interlocutorref3_size.j0, j1, decide_eq_true_eq]
  repeat' split
  all_goals first | rfl | (exfalso; first | omega | simp_all) 
 unfold interlocutorref3_size.f
 rw [j0, j0]
 simp only [decide_eq_true_eq]
 repeat' split
 all_goals first | rfl | (exfalso; first | omega | simp_all)
theorem i64_small (n : Int) (h0 : 0 ≤ n) (h1 : n < 2 ^ 62) : IntKind.i64.wrap n = n := by rw [IntKind.wrap_i64]; omega
theorem and_i64 (x : Int) (h0 : 0 ≤ x) (h1 : x < 4611686018427387904) : Go.bits .and .i64 x 63 = x % 64 ∧ Go.bits .and .i64 x 31 = x % 32 ∧ Go.bits .and .i64 x 15 = x % 16 ∧ Go.bits .and .i64 x 7 = x % 8 :=
 ⟨bits_mask .i64 62 (by decide) i64_small 6 (by decide) x h0 h1, bits_mask .i64 62 (by decide) i64_small 5 (by decide) x h0 h1, bits_mask .i64 62 (by decide) i64_small 4 (by decide) x h0 h1, bits_mask .i64 62 (by decide) i64_small 3 (by decide) x h0 h1⟩
theorem or_i64 (x y : Int) (h0 : 0 ≤ x) (h1 : x < 4611686018427387904) (hx : x % 64 = 0) (h2 : 0 ≤ y) (h3 : y < 64) : Go.bits .or .i64 x y = x + y :=
 bits_join .i64 62 (by decide) i64_small 6 x y h0 hx h1 h2 h3 (by omega)
theorem next_step (s : ByteArray) (n x : Int) (i k : Nat) (hi : (i : Int) < n) (his : i < s.size) (hs : s.size ≤ 4611686018427387904) (h0 : 0 ≤ x) (h1 : x < 1099511627776) :
  interlocutorref3_next.l0 (k + 1) s n x (i : Int) = if (bytesOf s).getD i 0 / 64 = 2 then interlocutorref3_next.l0 k s n (x * 64 + (bytesOf s).getD i 0 % 64) ((i + 1 : Nat) : Int) else some (65533, 1) := by
 have hb := getD_range (bytesOf s) (byte_range s) i
 simp only [interlocutorref3_next.l0]
 rw [if_pos hi, if_pos (by omega), if_pos (by omega), bt_getD]
 generalize (bytesOf s).getD i 0 = b at hb ⊢
 by_cases c1 : b < 128
 ·rw [if_pos c1, if_neg (by omega)]
 ·rw [if_neg c1]
  by_cases c2 : b > 191
  ·rw [if_pos c2, if_neg (by omega)]
  ·rw [if_neg c2, if_pos (by omega), wrapIn (x * 64) (by omega) (by omega), wrapIn b (by omega) (by omega), (and_i64 b (by omega) (by omega)).1, or_i64 _ _ (by omega) (by omega) (by omega) (by omega) (by omega), wrapIn _ (by omega) (by omega)]
   rfl
theorem next_end (s : ByteArray) (n x : Int) (k : Nat) :
  interlocutorref3_next.l0 (k + 1) s n x n = if n = 3 then (if x < 2048 ∨ (55296 ≤ x ∧ x ≤ 57343) then some (65533, 1) else some (x, 3)) else if n = 4 then (if x < 65536 ∨ x > 1114111 then some (65533, 1) else some (x, 4)) else some (x, n) := by
 simp only [interlocutorref3_next.l0]
 rw [if_neg (by omega), in_ok]
 simp only [Option.bind_some, decide_eq_true_eq]
 by_cases c3 : n = 3
 ·subst c3
  rw [if_pos rfl, if_pos rfl]
  by_cases c : x < 2048
  ·rw [if_pos c, if_pos (.inl c)]
  ·rw [if_neg c]
   by_cases c' : 55296 ≤ x ∧ x ≤ 57343
   ·rw [if_pos c', if_pos (.inr c')]
   ·rw [if_neg c', if_neg (by omega), if_neg (by omega)]
 ·rw [if_neg c3, if_neg c3]
  by_cases c4 : n = 4
  ·subst c4
   rw [if_pos rfl, if_pos rfl]
   by_cases c : x < 65536
   ·rw [if_pos c, if_pos (.inl c)]
   ·rw [if_neg c]
    by_cases c' : x > 1114111
    ·rw [if_pos c', if_pos (.inr c')]
    ·rw [if_neg c', if_neg (by omega)]
  ·rw [if_neg c4, if_neg c4]
theorem next_j0 (s : ByteArray) (n m : Int) (k : Nat) (h : 0 < s.size) (hn : (n = 2 ∧ m = 32) ∨ (n = 3 ∧ m = 16) ∨ (n = 4 ∧ m = 8)) : interlocutorref3_next.j0 (k + 1) s n false = interlocutorref3_next.l0 k s n ((bytesOf s).getD 0 0 % m) 1 := by
 have hb := getD_range (bytesOf s) (byte_range s) 0
 simp only [interlocutorref3_next.j0]
 rw [if_neg (by simp), if_pos (by omega), show bt s 0 = (bytesOf s).getD 0 0 from bt_getD s 0]
 generalize (bytesOf s).getD 0 0 = b at hb ⊢
 rw [wrapIn b (by omega) (by omega)]
 have h3 := and_i64 b (by omega) (by omega)
 rcases hn with ⟨rfl, rfl⟩ | ⟨rfl, rfl⟩ | ⟨rfl, rfl⟩
 ·rw [if_pos (by decide +kernel), show shr .i64 255 (IntKind.u64.wrap (wrap64 (2 + 1))) = 31 by decide +kernel, h3.2.1]
 ·rw [if_pos (by decide +kernel), show shr .i64 255 (IntKind.u64.wrap (wrap64 (3 + 1))) = 15 by decide +kernel, h3.2.2.1]
 ·rw [if_pos (by decide +kernel), show shr .i64 255 (IntKind.u64.wrap (wrap64 (4 + 1))) = 7 by decide +kernel, h3.2.2.2]
theorem next_ok (s : ByteArray) (h : 0 < s.size) (hs : s.size ≤ 4611686018427387904) : interlocutorref3_next.f 12 s = some ((decL (bytesOf s)).1, ((decL (bytesOf s)).2 : Int)) := by
 have hl := bytesOf_length s
 have r0 := getD_range (bytesOf s) (byte_range s) 0
 have r1 := getD_range (bytesOf s) (byte_range s) 1
 have r2 := getD_range (bytesOf s) (byte_range s) 2
 have r3 := getD_range (bytesOf s) (byte_range s) 3
 unfold interlocutorref3_next.f
 rw [if_pos (by omega), show bt s 0 = (bytesOf s).getD 0 0 from bt_getD s 0, at_rounds (fun k => interlocutorref3_size.mono _ k) (show 5 ≤ 12 by omega) (size_ok _ r0.1 r0.2)]
 simp only [Option.bind_some]
 have s1 : ∀ (n x : Int) (k : Nat), 1 < n → 1 < s.size → 0 ≤ x → x < 1099511627776 → interlocutorref3_next.l0 (k + 1) s n x 1 = if (bytesOf s).getD 1 0 / 64 = 2 then interlocutorref3_next.l0 k s n (x * 64 + (bytesOf s).getD 1 0 % 64) 2 else some (65533, 1) := fun n x k a b c d => next_step s n x 1 k a b hs c d
 have s2 : ∀ (n x : Int) (k : Nat), 2 < n → 2 < s.size → 0 ≤ x → x < 1099511627776 → interlocutorref3_next.l0 (k + 1) s n x 2 = if (bytesOf s).getD 2 0 / 64 = 2 then interlocutorref3_next.l0 k s n (x * 64 + (bytesOf s).getD 2 0 % 64) 3 else some (65533, 1) := fun n x k a b c d => next_step s n x 2 k a b hs c d
 have s3 : ∀ (n x : Int) (k : Nat), 3 < n → 3 < s.size → 0 ≤ x → x < 1099511627776 → interlocutorref3_next.l0 (k + 1) s n x 3 = if (bytesOf s).getD 3 0 / 64 = 2 then interlocutorref3_next.l0 k s n (x * 64 + (bytesOf s).getD 3 0 % 64) 4 else some (65533, 1) := fun n x k a b c d => next_step s n x 3 k a b hs c d
 have bad : ∀ (n : Int), interlocutorref3_next.j0 12 s n true = some (65533, 1) := fun n => by simp only [interlocutorref3_next.j0]; rw [if_pos trivial]
 unfold decL
 simp only [ctn_iff, hl]
 generalize (bytesOf s).getD 1 0 = b1 at *
 generalize (bytesOf s).getD 2 0 = b2 at *
 generalize (bytesOf s).getD 3 0 = b3 at *
 have j0 := fun n m k hn => next_j0 s n m k h hn
 generalize (bytesOf s).getD 0 0 = b0 at *
 by_cases c1 : b0 < 128
 ·rw [if_pos c1, if_pos rfl, wrapIn _ (by omega) (by omega), if_pos c1]
  rfl
 rw [if_neg c1, if_neg c1]
 by_cases c2 : 194 ≤ b0 ∧ b0 ≤ 223
 ·rw [if_pos c2, if_neg (by omega), if_neg (by omega)]
  by_cases cs : s.size < 2
  ·rw [decide_eq_true (by omega), bad, if_neg (by omega), if_neg (by omega), if_neg (by omega)]
   rfl
  ·rw [decide_eq_false (by omega), j0 2 32 11 (.inl ⟨rfl, rfl⟩), s1 _ _ _ (by omega) (by omega) (by omega) (by omega)]
   by_cases cc : b1 / 64 = 2
   ·rw [if_pos cc, next_end, if_neg (show ¬ (2 : Int) = 3 by omega), if_neg (show ¬ (2 : Int) = 4 by omega), if_pos (by omega), if_pos (by omega)]
    rfl
   ·rw [if_neg cc, if_neg (by omega), if_neg (by omega), if_neg (by omega)]
    rfl
 rw [if_neg c2]
 by_cases c3 : 224 ≤ b0 ∧ b0 ≤ 239
 ·rw [if_pos c3, if_neg (by omega), if_neg (by omega)]
  by_cases cs : s.size < 3
  ·rw [decide_eq_true (by omega), bad, if_neg (by omega), if_neg (by omega), if_neg (by omega)]
   rfl
  ·rw [decide_eq_false (by omega), j0 3 16 11 (.inr (.inl ⟨rfl, rfl⟩)), s1 _ _ _ (by omega) (by omega) (by omega) (by omega), s2 _ _ _ (by omega) (by omega) (by omega) (by omega)]
   by_cases cc : b1 / 64 = 2
   ·rw [if_pos cc]
    by_cases cd : b2 / 64 = 2
    ·rw [if_pos cd, next_end, if_pos rfl, if_neg (show ¬ (b0 / 32 = 6 ∧ 1 < s.size ∧ b1 / 64 = 2) by omega), if_pos (show b0 / 16 = 14 ∧ (1 < s.size ∧ b1 / 64 = 2) ∧ 2 < s.size ∧ b2 / 64 = 2 by omega), show (b0 % 16 * 64 + b1 % 64) * 64 + b2 % 64 = b0 % 16 * 4096 + b1 % 64 * 64 + b2 % 64 by omega]
     by_cases ce : b0 % 16 * 4096 + b1 % 64 * 64 + b2 % 64 < 2048 ∨ (55296 ≤ b0 % 16 * 4096 + b1 % 64 * 64 + b2 % 64 ∧ b0 % 16 * 4096 + b1 % 64 * 64 + b2 % 64 ≤ 57343)
     ·rw [if_pos ce, if_neg (by omega)]
      rfl
     ·rw [if_neg ce, if_pos (by omega)]
      rfl
    ·rw [if_neg cd, if_neg (by omega), if_neg (by omega), if_neg (by omega)]
     rfl
   ·rw [if_neg cc, if_neg (by omega), if_neg (by omega), if_neg (by omega)]
    rfl
 rw [if_neg c3]
 by_cases c4 : 240 ≤ b0 ∧ b0 ≤ 244
 ·rw [if_pos c4, if_neg (by omega), if_neg (by omega)]
  by_cases cs : s.size < 4
  ·rw [decide_eq_true (by omega), bad, if_neg (by omega), if_neg (by omega), if_neg (by omega)]
   rfl
  ·rw [decide_eq_false (by omega), j0 4 8 11 (.inr (.inr ⟨rfl, rfl⟩)), s1 _ _ _ (by omega) (by omega) (by omega) (by omega), s2 _ _ _ (by omega) (by omega) (by omega) (by omega), s3 _ _ _ (by omega) (by omega) (by omega) (by omega)]
   by_cases cc : b1 / 64 = 2
   ·rw [if_pos cc]
    by_cases cd : b2 / 64 = 2
    ·rw [if_pos cd]
     by_cases ce : b3 / 64 = 2
     ·rw [if_pos ce, next_end, if_neg (show ¬ (4 : Int) = 3 by omega), if_pos rfl, if_neg (show ¬ (b0 / 32 = 6 ∧ 1 < s.size ∧ b1 / 64 = 2) by omega), if_neg (show ¬ (b0 / 16 = 14 ∧ (1 < s.size ∧ b1 / 64 = 2) ∧ 2 < s.size ∧ b2 / 64 = 2) by omega), if_pos (show b0 / 8 = 30 ∧ (1 < s.size ∧ b1 / 64 = 2) ∧ (2 < s.size ∧ b2 / 64 = 2) ∧ 3 < s.size ∧ b3 / 64 = 2 by omega), show ((b0 % 8 * 64 + b1 % 64) * 64 + b2 % 64) * 64 + b3 % 64 = b0 % 8 * 262144 + b1 % 64 * 4096 + b2 % 64 * 64 + b3 % 64 by omega]
      by_cases cf : b0 % 8 * 262144 + b1 % 64 * 4096 + b2 % 64 * 64 + b3 % 64 < 65536 ∨ b0 % 8 * 262144 + b1 % 64 * 4096 + b2 % 64 * 64 + b3 % 64 > 1114111
      ·rw [if_pos cf, if_neg (by omega)]
       rfl
      ·rw [if_neg cf, if_pos (by omega)]
       rfl
     ·rw [if_neg ce, if_neg (by omega), if_neg (by omega), if_neg (by omega)]
      rfl
    ·rw [if_neg cd, if_neg (by omega), if_neg (by omega), if_neg (by omega)]
     rfl
   ·rw [if_neg cc, if_neg (by omega), if_neg (by omega), if_neg (by omega)]
    rfl
 rw [if_neg c4, if_neg (by omega), if_pos rfl, bad]
 by_cases c5 : b0 / 32 = 6 ∧ 1 < s.size ∧ b1 / 64 = 2
 ·rw [if_pos c5, if_neg (by omega)]
  rfl
 ·rw [if_neg c5, if_neg (by omega)]
  by_cases c6 : b0 / 8 = 30 ∧ (1 < s.size ∧ b1 / 64 = 2) ∧ (2 < s.size ∧ b2 / 64 = 2) ∧ 3 < s.size ∧ b3 / 64 = 2
  ·rw [if_pos c6, if_neg (by omega)]
   rfl
  ·rw [if_neg c6]
   rfl
theorem bytes_extract (s : ByteArray) (i : Nat) : bytesOf (s.extract i s.size) = (bytesOf s).drop i := by
 unfold bytesOf
 rw [← List.map_drop]
 congr 1
 simp only [ByteArray.data_extract, Array.toList_extract, List.extract_eq_take_drop]
 exact List.take_of_length_le (by rw [List.length_drop, data_length]; omega)
theorem ref_fold_loop (s : ByteArray) (hs : s.size < 17592186044415) : ∀ (d k f i : Nat) (x4 x5 : List Int), s.size - i ≤ d → i ≤ s.size → d + 20 < k → s.size - i ≤ f → x4.length ≤ i → x5.length ≤ i →
  interlocutorref3_Fold.l0 k s x4 x5 (i : Int) = some (x4 ++ (sgn f ((bytesOf s).drop i) i).map (fun p => runeP p.2), x5 ++ (sgn f ((bytesOf s).drop i) i).map (fun p => p.1) ++ [(s.size : Int)]) := by
 intro d
 have hl := bytesOf_length s
 induction d with
 | zero =>
  intro k f i x4 x5 hd hi hk hf h4 h5
  obtain ⟨k, rfl⟩ : ∃ m, k = m + 1 := ⟨k - 1, by omega⟩
  simp only [interlocutorref3_Fold.l0]
  rw [if_neg (by omega), if_pos (by omega)]
  have : (bytesOf s).drop i = [] := List.drop_eq_nil_of_le (by omega)
  rw [this]
  cases f <;> simp [sgn]
 | succ d ih =>
  intro k f i x4 x5 hd hi hk hf h4 h5
  obtain ⟨k, rfl⟩ : ∃ m, k = m + 1 := ⟨k - 1, by omega⟩
  by_cases hlt : i < s.size
  ·obtain ⟨f, rfl⟩ : ∃ m, f = m + 1 := ⟨f - 1, by omega⟩
   simp only [interlocutorref3_Fold.l0, sgn]
   have hne : 0 < ((bytesOf s).drop i).length := by rw [List.length_drop]; omega
   rw [if_pos (by omega), if_pos (by omega), if_pos (by omega), Int.toNat_natCast, if_pos hne]
   have hsz : (s.extract i s.size).size = s.size - i := by rw [ByteArray.size_extract]; omega
   rw [at_rounds (fun k => interlocutorref3_next.mono _ k) (show 12 ≤ k by omega) (next_ok (s.extract i s.size) (by omega) (by omega)), bytes_extract]
   have hw := decL_len _ hne
   have hsg := decL_sign ((bytesOf s).drop i) (fun x hx => byte_range s x (List.mem_of_mem_drop hx))
   rw [List.length_drop] at hw
   generalize hq : decL ((bytesOf s).drop i) = q at *
   obtain ⟨r, wd⟩ := q
   simp only [Sign] at hsg hw
   simp only [Option.bind_some]
   rw [ref_rune_k k (by omega) r (by omega) (by omega)]
   simp only [Option.bind_some]
   rw [if_pos (by omega), if_pos (by omega), wrapIn _ (by omega) (by omega), show (i : Int) + (wd : Int) = ((i + wd : Nat) : Int) by omega]
   rw [ih k f (i + wd) _ _ (by omega) (by omega) (by omega) (by omega) (by simp; omega) (by simp; omega), List.drop_drop]
   simp [List.append_assoc]
  ·simp only [interlocutorref3_Fold.l0]
   rw [if_neg (by omega), if_pos (by omega)]
   have : (bytesOf s).drop i = [] := List.drop_eq_nil_of_le (by omega)
   rw [this]
   cases f <;> simp [sgn]
theorem ref_fold (s : ByteArray) (hs : s.size < 17592186044415) (k : Nat) (hk : s.size + 20 < k) : interlocutorref3_Fold.f k s = some ((sgnOf s).map (fun p => runeP p.2), (sgnOf s).map (fun p => p.1) ++ [(s.size : Int)]) := by
 unfold interlocutorref3_Fold.f
 have := ref_fold_loop s hs s.size k s.size 0 [] [] (by omega) (by omega) hk (by omega) (by simp) (by simp)
 rw [List.drop_zero] at this
 simpa [sgnOf] using this
end Go.Proofs.Ytgbnfjhmobeloaa.Plain

namespace Go.Proofs.Ytgbnfjhmobeloaa.Plain
open Go.RowKit Go.Proofs.Ytgbnfjhmobeloaa.G Go.Proofs.YtgbnfjhmobeloaaW.PrintWords Go.Proofs.YtgbnfjhmobeloaaW.PrintLast Go.Proofs.YtgbnfjhmobeloaaW.PrintMore
set_option linter.unusedVariables false
set_option linter.unusedSimpArgs false
theorem sgn_length : ∀ (f : Nat) (l : List Int) (p : Int), (sgn f l p).length ≤ l.length
 | 0, _, _ => by simp [sgn]
 | f + 1, l, p => by
  simp only [sgn]
  split
  ·rename_i hne
   have := sgn_length f (l.drop (decL l).2) (p + (decL l).2)
   have hw := decL_len l hne
   rw [List.length_drop] at this
   simp only [List.length_cons]
   omega
  ·simp
def runesOf (s : ByteArray) : List Int := (sgnOf s).map fun p => runeP p.2
theorem runesOf_length (s : ByteArray) : (runesOf s).length ≤ s.size := by
 unfold runesOf sgnOf
 rw [List.length_map]
 have := sgn_length s.size (bytesOf s) 0
 rw [bytesOf_length] at this
 exact this
theorem app_size (a b : ByteArray) : (a ++ b).size = a.size + b.size := by simp
theorem rdOf_size (l : List ByteArray) (m : Nat) (h : ∀ x ∈ l, x.size ≤ m) (i : Int) : (rdOf ByteArray.empty l i).size ≤ m := by
 unfold rdOf
 rw [List.getD_eq_getElem?_getD]
 rcases Nat.lt_or_ge i.toNat l.length with hk | hk
 ·rw [List.getElem?_eq_getElem hk]
  exact h _ (List.getElem_mem hk)
 ·rw [List.getElem?_eq_none hk]
  simp
theorem ref_fold6 (s : ByteArray) (hs : s.size < 17592186044415) (k : Nat) (hk : s.size + 20 < k) : ∃ o, interlocutorref3_Fold.f k s = some (runesOf s, o) := ⟨_, ref_fold s hs k hk⟩
end Go.Proofs.Ytgbnfjhmobeloaa.Plain

namespace Go.Proofs.Ytgbnfjhmobeloaa.Plain
open Go.RowKit Go.Proofs.Ytgbnfjhmobeloaa.G Go.Proofs.YtgbnfjhmobeloaaW.PrintWords Go.Proofs.YtgbnfjhmobeloaaW.PrintLast Go.Proofs.YtgbnfjhmobeloaaW.PrintMore
set_option linter.unusedVariables false
set_option linter.unusedSimpArgs false
theorem text_loop (l0 : List Int) (m : Nat) (hm : m ≤ 1000) (x5 : List ByteArray) (h5 : 0 < x5.length ∧ x5.length ≤ 1000) (h6 : ∀ x ∈ x5, x.size ≤ 31) :
  ∀ (d k i : Nat) (x6 : ByteArray), m - i ≤ d → i ≤ m → 2 * d + 2 < k → x6.size ≤ 32 * i → ∃ t, interlocutorlaw6_Text.l0 k l0 (m : Int) x5 x6 (i : Int) = some t ∧ t.size ≤ 32 * m := by
 intro d
 have stop : ∀ (k i : Nat) (x6 : ByteArray), 3 ≤ k → i ≤ m → x6.size ≤ 32 * i → ¬ (i < l0.length ∧ i < m) → ∃ t, interlocutorlaw6_Text.l0 k l0 (m : Int) x5 x6 (i : Int) = some t ∧ t.size ≤ 32 * m := by
  intro k i x6 hk hi hx hn
  obtain ⟨k, rfl⟩ : ∃ m, k = m + 2 := ⟨k - 2, by omega⟩
  simp only [interlocutorlaw6_Text.l0]
  by_cases c : (i : Int) < (l0.length : Int)
  ·rw [if_pos c]
   simp only [interlocutorlaw6_Text.j1]
   rw [decide_eq_false (by omega), if_neg (by simp)]
   exact ⟨_, rfl, by omega⟩
  ·rw [if_neg c]
   simp only [interlocutorlaw6_Text.j1]
   rw [if_neg (by simp)]
   exact ⟨_, rfl, by omega⟩
 induction d with
 | zero => intro k i x6 hd hi hk hx; exact stop k i x6 (by omega) hi hx (by omega)
 | succ d ih =>
  intro k i x6 hd hi hk hx
  by_cases hn : i < l0.length ∧ i < m
  ·obtain ⟨k, rfl⟩ : ∃ m, k = m + 2 := ⟨k - 2, by omega⟩
   have a1 : m - (i + 1) ≤ d := by omega
   have a2 : i + 1 ≤ m := by omega
   have a3 : 2 * d + 2 < k := by omega
   have a5 : (i : Int) < (l0.length : Int) := by omega
   have a6 : (i : Int) < (m : Int) := by omega
   have a7 : (0 : Int) ≤ (i : Int) := by omega
   have hw : wrap64 ((i : Int) + 1) = ((i + 1 : Nat) : Int) := by rw [wrapIn _ (by omega) (by omega)]; omega
   clear hk hd
   simp only [interlocutorlaw6_Text.l0]
   rw [if_pos a5, decide_eq_true a6]
   simp only [interlocutorlaw6_Text.j1]
   rw [if_pos trivial, if_pos a7, if_pos a5, within_ok _ (x5.length : Int) (by omega) (by omega)]
   simp only [Option.bind_some]
   generalize rd l0 (i : Int) = q
   have b0 := Int.emod_nonneg q (show (x5.length : Int) ≠ 0 by omega)
   have b1 := Int.emod_lt_of_pos q (show (0 : Int) < (x5.length : Int) by omega)
   have s4 := rdOf_size x5 31 h6 (q % (x5.length : Int))
   generalize rdOf ByteArray.empty x5 (q % (x5.length : Int)) = u at s4 ⊢
   have a4 : (x6 ++ u).size ≤ 32 * i + 31 := by rw [app_size]; omega
   rw [if_pos b0, if_pos b1, if_pos (by omega), within_ok _ 3 (by omega) (by omega)]
   simp only [Option.bind_some]
   rw [hw]
   by_cases c : wrap64 (q.tdiv 64) % 3 > 0
   ·rw [if_pos c, if_pos (by omega)]
    exact ih k (i + 1) _ a1 a2 a3 (by rw [app_size (x6 ++ u)]; show _ + 1 ≤ _; omega)
   ·rw [if_neg c]
    exact ih k (i + 1) _ a1 a2 a3 (by omega)
  ·exact stop k i x6 (by omega) hi hx hn
theorem text_ok (l0 : List Int) (m : Nat) (hm : m ≤ 1000) (k : Nat) (hk : 2 * m + 2 < k) : ∃ t, interlocutorlaw6_Text.f k l0 (m : Int) = some t ∧ t.size ≤ 32 * m := by
 unfold interlocutorlaw6_Text.f
 exact text_loop l0 m hm _ (by decide) (by decide) m k 0 _ (by omega) (by omega) (by omega) (by decide)
end Go.Proofs.Ytgbnfjhmobeloaa.Plain

namespace Go.Proofs.Ytgbnfjhmobeloaa.Plain
open Go.RowKit Go.Proofs.Ytgbnfjhmobeloaa.G Go.Proofs.YtgbnfjhmobeloaaW.PrintWords Go.Proofs.YtgbnfjhmobeloaaW.PrintLast Go.Proofs.YtgbnfjhmobeloaaW.PrintMore
set_option linter.unusedVariables false
set_option linter.unusedSimpArgs false
theorem cmpI_eq {a b : Int} (h : cmpI a b = 0) : a = b := by
 unfold cmpI at h
 by_cases h1 : a < b
 ·rw [if_pos h1] at h; omega
 ·rw [if_neg h1] at h
  by_cases h2 : a > b
  ·rw [if_pos h2] at h; omega
  ·omega
theorem or2_zero {a b : Int} (h : or2 a b = 0) : a = 0 ∧ b = 0 := by
 unfold or2 at h
 by_cases h1 : a = 0
 ·rw [if_pos h1] at h; exact ⟨h1, h⟩
 ·rw [if_neg h1] at h; exact absurd h h1
theorem cmpT_eq {x y : S47} (h : cmpT x y = 0) : x = y := by
 unfold cmpT at h
 obtain ⟨h0, h⟩ := or2_zero h
 obtain ⟨h1, h⟩ := or2_zero h
 obtain ⟨h2, h⟩ := or2_zero h
 obtain ⟨h3, h4⟩ := or2_zero h
 cases x
 cases y
 have e0 := cmpI_eq h0
 have e1 := cmpI_eq h1
 have e2 := cmpI_eq h2
 have e3 := cmpI_eq h3
 have e4 := cmpI_eq h4
 dsimp only at e0 e1 e2 e3 e4
 subst e0 e1 e2 e3 e4
 rfl
theorem ltT_irr (x : S47) : ¬ ltT x x := by unfold ltT; rw [cmpT_self]; omega
theorem ltT_of_le {x y z : S47} (h1 : cmpT x y ≤ 0) (h2 : cmpT y z ≤ 0) (h : cmpT x y < 0 ∨ cmpT y z < 0) : ltT x z := by
 have t := cmpT_pre.tr x y z (by omega) (by omega)
 unfold ltT
 refine Int.lt_iff_le_and_ne.2 ⟨t, fun e => ?_⟩
 have exz := cmpT_eq e
 subst exz
 have := cmpT_anti x y
 omega
theorem ltT_trans {x y z : S47} (h1 : ltT x y) (h2 : ltT y z) : ltT x z := by
 unfold ltT at h1 h2
 exact ltT_of_le (by omega) (by omega) (.inl h1)
theorem rise_ext : ∀ {l m : List S47}, l.Pairwise ltT → m.Pairwise ltT → (∀ x, x ∈ l ↔ x ∈ m) → l = m
 | [], [], _, _, _ => rfl
 | [], y :: m, _, _, h => absurd ((h y).2 (List.mem_cons_self ..)) (by simp)
 | x :: l, [], _, _, h => absurd ((h x).1 (List.mem_cons_self ..)) (by simp)
 | x :: l, y :: m, hl, hm, h => by
  have hl' := List.pairwise_cons.1 hl
  have hm' := List.pairwise_cons.1 hm
  have exy : x = y := by
   rcases List.mem_cons.1 ((h x).1 (List.mem_cons_self ..)) with e | hx
   ·exact e
   ·rcases List.mem_cons.1 ((h y).2 (List.mem_cons_self ..)) with e | hy
    ·exact e.symm
    ·exact absurd (ltT_trans (hl'.1 y hy) (hm'.1 x hx)) (ltT_irr x)
  subst exy
  rw [rise_ext hl'.2 hm'.2 fun z => ?_]
  constructor
  ·intro hz
   rcases List.mem_cons.1 ((h z).1 (List.mem_cons_of_mem _ hz)) with e | hz2
   ·subst e
    exact absurd (hl'.1 z hz) (ltT_irr z)
   ·exact hz2
  ·intro hz
   rcases List.mem_cons.1 ((h z).2 (List.mem_cons_of_mem _ hz)) with e | hz2
   ·subst e
    exact absurd (hm'.1 z hz) (ltT_irr z)
   ·exact hz2
theorem mem_dedup : ∀ (l : List S47) (x : S47), x ∈ dedup l ↔ x ∈ l
 | [], _ => Iff.rfl
 | [_], _ => Iff.rfl
 | y :: z :: l, x => by
  rw [show dedup (y :: z :: l) = if sameT y z = true then dedup (z :: l) else y :: dedup (z :: l) from rfl]
  have ih := mem_dedup (z :: l) x
  by_cases h : sameT y z = true
  ·rw [if_pos h, ih, (sameT_iff y z).1 h]
   simp
  ·rw [if_neg h, List.mem_cons, ih, List.mem_cons (a := x) (b := y)]
theorem dedup_rise : ∀ {l : List S47}, l.Pairwise (fun a b => cmpT a b ≤ 0) → (dedup l).Pairwise ltT
 | [], _ => List.Pairwise.nil
 | [_], _ => List.pairwise_singleton _ _
 | x :: y :: l, h => by
  have h1 := List.pairwise_cons.1 h
  have ih := dedup_rise h1.2
  rw [show dedup (x :: y :: l) = if sameT x y = true then dedup (y :: l) else x :: dedup (y :: l) from rfl]
  by_cases hs : sameT x y = true
  ·rw [if_pos hs]
   exact ih
  ·rw [if_neg hs]
   refine List.pairwise_cons.2 ⟨fun z hz => ?_, ih⟩
   have hz' := (mem_dedup _ z).1 hz
   have hxy : cmpT x y < 0 := Int.lt_iff_le_and_ne.2 ⟨h1.1 y (List.mem_cons_self ..), fun e => hs ((sameT_iff x y).2 (cmpT_eq e))⟩
   rcases List.mem_cons.1 hz' with e | hz2
   ·subst e
    exact hxy
   ·exact ltT_of_le (Int.le_of_lt hxy) ((List.pairwise_cons.1 h1.2).1 z hz2) (.inl hxy)
theorem sort_rise (l : List S47) : (sortT l).Pairwise (fun a b => cmpT a b ≤ 0) := by
 unfold sortT
 have h := List.pairwise_mergeSort (le := leT) (fun a b c hab hbc => by
  unfold leT Go.Proofs.ltOf at hab hbc ⊢
  simp only [Bool.not_eq_true', decide_eq_false_iff_not] at hab hbc ⊢
  have e1 := cmpT_anti a b
  have e2 := cmpT_anti b c
  have e3 := cmpT_anti a c
  have t := cmpT_pre.tr a b c (by omega) (by omega)
  omega) (fun a b => by
  unfold leT Go.Proofs.ltOf
  have e1 := cmpT_anti a b
  by_cases c : cmpT b a < 0
  ·rw [decide_eq_true c, decide_eq_false (by omega)]
   rfl
  ·rw [decide_eq_false c]
   rfl) l
 refine h.imp fun {a b} hab => ?_
 have e := cmpT_anti a b
 unfold leT Go.Proofs.ltOf at hab
 simp only [Bool.not_eq_true', decide_eq_false_iff_not] at hab
 omega
theorem tok_rise (lex : List S53) (l : List Int) : (tokF lex l).Pairwise ltT := dedup_rise (sort_rise _)
theorem mem_tok (lex : List S53) (l : List Int) (x : S47) : x ∈ tokF lex l ↔ x ∈ rawF l (wordsF lex) l.length := by
 unfold tokF
 rw [mem_dedup]
 unfold sortT
 exact (List.mergeSort_perm _ _).mem_iff
theorem foldR_runes (s : ByteArray) (h : s.size ≤ 1000000) : foldR s = runesOf s := by
 have e1 := fold_is s h
 have e2 := fold_eq s (by omega)
 rw [e1] at e2
 injection e2 with e2
 injection e2 with e2 _
theorem rawF_succ (l : List Int) (ws : List S71) (p : Nat) : rawF l ws (p + 1) = rawF l ws p ++ rawAt l ws p := by
 unfold rawF
 rw [List.range_succ, List.flatMap_append]
 simp
theorem rawAt_f0 {l : List Int} {ws : List S71} {p : Nat} {x : S47} (h : x ∈ rawAt l ws p) : x.f0 = p := by
 unfold rawAt at h
 obtain ⟨y, _, rfl⟩ := List.mem_map.1 h
 rfl
end Go.Proofs.Ytgbnfjhmobeloaa.Plain

namespace Go.Proofs.Ytgbnfjhmobeloaa.Plain
open Go.RowKit Go.Proofs.Ytgbnfjhmobeloaa.G Go.Proofs.YtgbnfjhmobeloaaW.PrintWords Go.Proofs.YtgbnfjhmobeloaaW.PrintLast Go.Proofs.YtgbnfjhmobeloaaW.PrintMore
set_option linter.unusedVariables false
set_option linter.unusedSimpArgs false
theorem within5_ok (a n : Int) (hn : 0 < n) (hn2 : n ≤ 4611686018427387904) : interlocutorlaw5_within.f a n = some (a % n) := by
 unfold interlocutorlaw5_within.f
 rw [if_neg (by omega)]
 have h1 := Int.emod_nonneg a (show n ≠ 0 by omega)
 have h2 := Int.emod_lt_of_pos a hn
 rw [Int.tmod_eq_emod]
 have hn3 : (n.natAbs : Int) = n := by omega
 split
 ·rw [if_neg (by omega)]
  simp
 ·rw [hn3, if_pos (by omega), wrapIn _ (by omega) (by omega)]
  congr 1
  omega
theorem few4_ok (l : List S85) (hl : l.length ≤ 9223372036854775807) : ∀ (d k i : Nat), i + d = l.length → d < k → ∃ b, interlocutorlaw4_Few.l0 k l (i : Int) = some b := by
 intro d
 induction d with
 | zero =>
  intro k i hi hk
  obtain ⟨k, rfl⟩ : ∃ m, k = m + 1 := ⟨k - 1, by omega⟩
  simp only [interlocutorlaw4_Few.l0]
  rw [if_neg (by omega)]
  exact ⟨_, rfl⟩
 | succ d ih =>
  intro k i hi hk
  obtain ⟨k, rfl⟩ : ∃ m, k = m + 1 := ⟨k - 1, by omega⟩
  simp only [interlocutorlaw4_Few.l0]
  rw [if_pos (by omega), if_pos (by omega)]
  split
  ·exact ⟨_, rfl⟩
  ·split
   ·exact ⟨_, rfl⟩
   ·rw [show wrap64 ((i : Int) + 1) = ((i + 1 : Nat) : Int) by unfold wrap64; omega]
    exact ih k (i + 1) (by omega) (by omega)
theorem few_ok (a0 a1 a2 a3 : Int) (l : List S85) (b : Bool) (hl : l.length ≤ 9223372036854775807) (k : Nat) (hk : l.length < k) : ∃ r, interlocutorlaw5_Shape_Few.f k a0 a1 a2 a3 l b = some r := by
 obtain ⟨t, ht⟩ := few4_ok l hl l.length k 0 (by omega) hk
 unfold interlocutorlaw5_Shape_Few.f interlocutorlaw4_Few.f
 rw [show (0 : Int) = ((0 : Nat) : Int) from rfl, ht, Option.bind_some]
 split
 ·exact ⟨_, rfl⟩
 ·exact ⟨_, rfl⟩
theorem rightB_all : ∀ l : List Int, rightB l = true → ∀ x ∈ l, x < 20
 | [], _, x, h => by cases h
 | s :: l, h, x, hx => by
  simp only [rightB] at h
  by_cases c : decide (20 ≤ s) = true
  ·rw [if_pos c] at h
   cases h
  ·rw [if_neg c] at h
   by_cases c2 : decide (s < -61) = true
   ·rw [if_pos c2] at h
    cases h
   ·rw [if_neg c2] at h
    rcases List.mem_cons.1 hx with rfl | hx
    ·simpa using c
    ·exact rightB_all l h x hx
theorem right_sym {a : Int} {l1 : List Int} {op : Int} {l3 : List Int} {c : Int} (h : rightF a l1 op l3 c = true) : 0 ≤ a ∧ a < 20 ∧ ∀ x ∈ l1, x < 20 := by
 unfold rightF rightA at h
 simp only [Bool.and_eq_true, Bool.not_eq_true', decide_eq_false_iff_not] at h
 exact ⟨by omega, by omega, rightB_all l1 h.2.1⟩
def isRight (x : S108) : Prop := rightF x.f0 x.f1 x.f2.f0 x.f2.f1 x.f3 = true
theorem ckR_ok : ∀ l : List S108, ∃ b, ckR l = some b ∧ (b = true → ∀ x ∈ l, isRight x)
 | [] => ⟨true, rfl, fun _ x h => by cases h⟩
 | x :: xs => by
  obtain ⟨b, hb, hall⟩ := ckR_ok xs
  by_cases c : rightF x.f0 x.f1 x.f2.f0 x.f2.f1 x.f3 = true
  ·refine ⟨b, ?_, fun h y hy => ?_⟩
   ·show (some (rightF x.f0 x.f1 x.f2.f0 x.f2.f1 x.f3)).bind _ = _
    rw [Option.bind_some, if_pos c]
    exact hb
   ·rcases List.mem_cons.1 hy with rfl | hy
    ·exact c
    ·exact hall h y hy
  ·refine ⟨false, ?_, fun h => by cases h⟩
   show (some (rightF x.f0 x.f1 x.f2.f0 x.f2.f1 x.f3)).bind _ = _
   rw [Option.bind_some, if_neg c]
theorem putF_length (l : List Int) (n : Int) : (putF l n).length ≤ l.length + 1 := by
 unfold putF
 split
 ·omega
 ·rw [List.length_append, List.length_append, List.length_take, List.length_drop, List.length_singleton]
  omega
theorem putF_mem (l : List Int) (n x : Int) (h : x ∈ putF l n) : x = n ∨ x ∈ l := by
 unfold putF at h
 split at h
 ·exact .inr h
 ·rcases List.mem_append.1 h with h | h
  ·rcases List.mem_append.1 h with h | h
   ·exact .inr (List.mem_of_mem_take h)
   ·exact .inl (List.mem_singleton.1 h)
  ·exact .inr (List.mem_of_mem_drop h)
def UnOk (M : List (List Int)) (n : Nat) : Prop := M.length = 20 ∧ ∀ r ∈ M, r.length ≤ n ∧ ∀ x ∈ r, 0 ≤ x ∧ x < 20
theorem UnOk.at {M : List (List Int)} {n : Nat} (h : UnOk M n) (j : Nat) : (M.getD j []).length ≤ n ∧ ∀ x ∈ M.getD j [], 0 ≤ x ∧ x < 20 := by
 rw [List.getD_eq_getElem?_getD]
 rcases Nat.lt_or_ge j M.length with hj | hj
 ·rw [List.getElem?_eq_getElem hj]
  exact h.2 _ (List.getElem_mem hj)
 ·rw [List.getElem?_eq_none hj]
  exact ⟨Nat.zero_le _, fun x hx => by cases hx⟩
theorem units_ok : ∀ (l : List S108) (M : List (List Int)) (n : Nat), UnOk M n → n + l.length < 1000000 → (∀ x ∈ l, isRight x) → ∃ M' n', unitsL l M = some M' ∧ UnOk M' n'
 | [], M, n, h, _, _ => ⟨M, n, rfl, h⟩
 | x :: xs, M, n, h, hn, hr => by
  rw [List.length_cons] at hn
  have hx := right_sym (hr x (List.mem_cons_self ..))
  have hxs : ∀ y ∈ xs, isRight y := fun y hy => hr y (List.mem_cons_of_mem _ hy)
  have up : UnOk M (n + 1) := ⟨h.1, fun r hr' => ⟨by have := (h.2 r hr').1; omega, (h.2 r hr').2⟩⟩
  simp only [unitsL]
  by_cases c : x.f1.length = 1 ∧ 0 ≤ rd x.f1 0
  ·have ha := h.at x.f0.toNat
   have hm : rd x.f1 0 ∈ x.f1 := by
    unfold rd
    rw [List.getD_eq_getElem?_getD, List.getElem?_eq_getElem (by show (0 : Int).toNat < _; have := c.1; simp; omega)]
    exact List.getElem_mem _
   rw [if_pos c, if_pos ⟨hx.1, hx.2.1, by omega⟩]
   refine units_ok xs _ (n + 1) ⟨by rw [List.length_set]; exact h.1, fun r hr' => ?_⟩ (by omega) hxs
   rcases List.mem_or_eq_of_mem_set hr' with hr' | rfl
   ·exact up.2 r hr'
   ·refine ⟨by have := putF_length (M.getD x.f0.toNat []) (rd x.f1 0); omega, fun y hy => ?_⟩
    rcases putF_mem _ _ _ hy with rfl | hy
    ·exact ⟨c.2, hx.2.2 _ hm⟩
    ·exact ha.2 y hy
  ·rw [if_neg c]
   exact units_ok xs M n h (by omega) hxs
theorem ckRow_ok (i : Nat) : ∀ (u : List Int) (M : List Bool), (∀ x ∈ u, 0 ≤ x ∧ x < 20) → ∃ M', ckRow i u M = some M'
 | [], M, _ => ⟨M, rfl⟩
 | x :: xs, M, h => by
  simp only [ckRow]
  rw [if_pos (h x (List.mem_cons_self ..))]
  exact ckRow_ok i xs _ (fun y hy => h y (List.mem_cons_of_mem _ hy))
theorem ckAll_ok : ∀ (us : List (List Int)) (i : Nat) (M : List Bool), i + us.length ≤ 20 → (∀ r ∈ us, ∀ x ∈ r, 0 ≤ x ∧ x < 20) → ∃ M', ckAll i us M = some M'
 | [], i, M, _, _ => ⟨M, by simp only [ckAll]⟩
 | u :: us, i, M, hi, h => by
  rw [List.length_cons] at hi
  obtain ⟨M1, h1⟩ := ckRow_ok i u M (h u (List.mem_cons_self ..))
  simp only [ckAll]
  rw [if_pos (by omega), h1, Option.bind_some]
  exact ckAll_ok us (i + 1) M1 (by omega) (fun r hr => h r (List.mem_cons_of_mem _ hr))
theorem check_ok (l : List S108) : ∃ b, interlocutorref4_Check.f l = some b := by
 unfold interlocutorref4_Check.f
 by_cases c : 60 < l.length
 ·rw [if_pos c]
  exact ⟨_, rfl⟩
 ·rw [if_neg c]
  obtain ⟨b, hb, hall⟩ := ckR_ok l
  rw [hb, Option.bind_some]
  by_cases c2 : b = true
  ·rw [if_pos c2]
   obtain ⟨u, n, hu, hU⟩ := units_ok l (List.replicate 20 []) 0 ⟨by rw [List.length_replicate], fun r hr => by rw [List.eq_of_mem_replicate hr]; exact ⟨Nat.le_refl _, fun x hx => by cases hx⟩⟩ (by omega) (hall c2)
   obtain ⟨M, hM⟩ := ckAll_ok u 0 (List.replicate 400 false) (by rw [hU.1]; omega) (fun r hr => (hU.2 r hr).2)
   rw [hu, Option.bind_some, hM, Option.bind_some]
   exact ⟨_, rfl⟩
  ·rw [if_neg c2]
   exact ⟨_, rfl⟩
theorem rules_ok (s : Int) : ∀ (xs : List S85) (out : List S108), ∃ r, rulesL s xs out = some r ∧ r.length ≤ out.length + xs.length
 | [], out => ⟨out, rfl, Nat.le_refl _⟩
 | x :: xs, out => by
  obtain ⟨b, hb⟩ := check_ok (out ++ [makeX s x])
  simp only [rulesL]
  rw [hb, Option.bind_some]
  cases b with
  | true =>
   obtain ⟨r, hr, hl⟩ := rules_ok s xs (out ++ [makeX s x])
   rw [List.length_append, List.length_singleton] at hl
   exact ⟨r, by simpa using hr, by rw [List.length_cons]; omega⟩
  | false =>
   obtain ⟨r, hr, hl⟩ := rules_ok s xs out
   exact ⟨r, by simpa using hr, by rw [List.length_cons]; omega⟩
structure LocOk (x : S32) (n : Nat) : Prop where
 h3 : x.f3.length ≤ 100 * n
 s3 : ∀ e ∈ x.f3, e.f0.size ≤ 100 ∧ e.f1 ≠ 0 ∧ ¬ (e.f1 = 9 ∧ e.f2 = 77)
 h4 : x.f4.length ≤ 100 * n
 h5 : x.f5.length ≤ 100 * n
def LocsOk (l : List S32) : Prop := l.length ≤ 5 ∧ 0 < l.length ∧ ∀ i : Nat, i < l.length → LocOk (rd_T32 l (i : Int)) 1 ∧ (rd_T32 l (i : Int)).f1 < (i : Int)
theorem words_ok : ∃ w, interlocutorlaw5_words.f = some w ∧ w.length ≤ 100 ∧ ∀ e ∈ w, e.f0.size ≤ 100 ∧ e.f1 ≠ 0 ∧ ¬ (e.f1 = 9 ∧ e.f2 = 77) := ⟨_, rfl, by decide, by decide⟩
theorem others_ok : ∃ o, interlocutorlaw5_others.f = some o ∧ o.length ≤ 100 := ⟨_, rfl, by decide⟩
theorem styles_ok : ∃ s, interlocutorlaw5_styles.f = some s ∧ s.length ≤ 100 := ⟨_, rfl, by decide⟩
theorem dates_ok (a : Int) : ∃ d, interlocutorlaw5_dates.f a = some d ∧ d.length ≤ 100 := by
 unfold interlocutorlaw5_dates.f
 rw [within5_ok a 3 (by decide) (by decide), Option.bind_some]
 have h1 := Int.emod_nonneg a (show (3 : Int) ≠ 0 by decide)
 have h2 := Int.emod_lt_of_pos a (show (0 : Int) < 3 by decide)
 have hd : ∀ p, (datesL p).length ≤ 100 := fun p => by unfold datesL; simp
 split
 ·exact ⟨_, rfl, hd _⟩
 ·split
  ·exact ⟨_, rfl, hd _⟩
  ·rw [if_pos (by omega)]
   exact ⟨_, rfl, hd _⟩
theorem sample_ok (a0 a1 : Int) : ∃ l, interlocutorlaw5_Sample.f a0 a1 = some l ∧ l.length = 3 ∧ LocsOk l := by
 obtain ⟨w, hw, hw1, hw2⟩ := words_ok
 obtain ⟨o, ho, ho1⟩ := others_ok
 obtain ⟨s, hs, hs1⟩ := styles_ok
 obtain ⟨d, hd, hd1⟩ := dates_ok a0
 unfold interlocutorlaw5_Sample.f
 rw [hw, Option.bind_some, ho, Option.bind_some, hs, Option.bind_some, hd, Option.bind_some, within5_ok a1 4 (by decide) (by decide), Option.bind_some]
 refine ⟨_, rfl, rfl, by simp, by simp, fun i hi => ?_⟩
 match i, hi with
 | 0, _ => exact ⟨⟨hw1, hw2, ho1, hs1⟩, by show (-1 : Int) < 0; decide⟩
 | 1, _ => exact ⟨⟨Nat.zero_le _, (fun e he => by cases he), hd1, Nat.zero_le _⟩, by show (0 : Int) < 1; decide⟩
 | 2, _ => exact ⟨⟨by show (1 : Nat) ≤ 100 * 1; decide, (fun e he => by rw [List.mem_singleton.1 he]; decide), Nat.zero_le _, Nat.zero_le _⟩, by show (1 : Int) < 2; decide⟩
theorem shW_size (i : Int) : (shW i).size ≤ 100 := by
 unfold shW
 rw [List.getD_eq_getElem?_getD]
 generalize hw : ([_, _, _, _, _] : List ByteArray) = l
 have hall : ∀ x ∈ l, x.size ≤ 100 := by rw [← hw]; decide
 rcases Nat.lt_or_ge i.toNat l.length with h | h
 ·rw [List.getElem?_eq_getElem h]
  exact hall _ (List.getElem_mem h)
 ·rw [List.getElem?_eq_none h]
  show ByteArray.empty.size ≤ 100
  decide
theorem rdL_get (l : List S32) (i : Nat) (h : i < l.length) : rd_T32 l (i : Int) = l[i] := by
 unfold rd_T32
 rw [List.getD_eq_getElem?_getD, show ((i : Int)).toNat = i from rfl, List.getElem?_eq_getElem h]
 rfl
theorem shape_ok (a0 a1 a2 a3 : Int) (l : List S85) (b : Bool) : ∃ r, interlocutorlaw5_Shape_Make.f a0 a1 a2 a3 l b = some r ∧ LocsOk r := by
 obtain ⟨smp, hs, h3, hS⟩ := sample_ok a0 a1
 unfold interlocutorlaw5_Shape_Make.f
 rw [hs, Option.bind_some]
 cases b with
 | false => exact ⟨smp, by rw [if_neg (by decide)], hS⟩
 | true =>
  obtain ⟨rs, hr, hl⟩ := rules_ok 6 (l.take 20) []
  rw [if_pos rfl, hr, Option.bind_some, if_pos (by omega)]
  refine ⟨_, rfl, by rw [List.length_append, List.length_singleton]; omega, by rw [List.length_append, List.length_singleton]; omega, fun i hi => ?_⟩
  rw [List.length_append, List.length_singleton] at hi
  rw [rdL_get _ i (by rw [List.length_append, List.length_singleton]; omega)]
  by_cases hi3 : i < smp.length
  ·rw [List.getElem_append_left hi3, ← rdL_get _ i hi3]
   exact hS.2.2 i hi3
  ·rw [List.getElem_append_right (by omega), List.getElem_singleton]
   refine ⟨⟨by show (2 : Nat) ≤ 100 * 1; decide, fun e he => ?_, ?_, Nat.zero_le _⟩, by show (-1 : Int) < _; omega⟩
   ·rcases List.mem_cons.1 he with rfl | he
    ·have h1 := Int.emod_nonneg a3 (show (3 : Int) ≠ 0 by decide)
     have h2 := Int.emod_lt_of_pos a3 (show (0 : Int) < 3 by decide)
     exact ⟨shW_size _, by show wrap64 (1 + a3 % 3) ≠ 0; unfold wrap64; omega, fun h9 => by
      have h9 : wrap64 (1 + a3 % 3) = 9 := h9.1
      unfold wrap64 at h9
      omega⟩
    ·rw [List.mem_singleton.1 he]
     decide
   ·show rs.length ≤ 100 * 1
    rw [List.length_take, List.length_nil] at hl
    omega
theorem at5_ok (l : List S32) (h : LocsOk l) : ∀ (k i : Nat), i < l.length → i < k → ∃ r, atF k l (i : Int) = some r ∧ LocOk r (i + 1) := by
 intro k
 induction k with
 | zero =>
  intro i _ hk
  exact absurd hk (by omega)
 | succ k ih =>
  intro i hi hk
  have hx := h.2.2 i hi
  have hl := h.1
  rw [atF, if_pos ⟨by omega, by omega⟩]
  by_cases c : (rd_T32 l (i : Int)).f1 < 0
  ·rw [if_pos c]
   exact ⟨_, rfl, by have := hx.1.h3; omega, hx.1.s3, by have := hx.1.h4; omega, by have := hx.1.h5; omega⟩
  ·rw [if_neg c]
   obtain ⟨j, hj⟩ := Int.eq_ofNat_of_zero_le (show 0 ≤ (rd_T32 l (i : Int)).f1 by omega)
   have hji : j < i := by have := hx.2; omega
   obtain ⟨p, hp, hP⟩ := ih j (by omega) (by omega)
   rw [hj, hp, Option.bind_some]
   have e3 := hP.h3
   have e4 := hP.h4
   have e5 := hP.h5
   have x3 := hx.1.h3
   have x4 := hx.1.h4
   have x5 := hx.1.h5
   rw [if_pos ⟨by omega, by omega, by omega⟩]
   refine ⟨_, rfl, ?_, ?_, ?_, ?_⟩
   ·show (p.f3 ++ _).length ≤ _
    rw [List.length_append]
    omega
   ·intro e he
    rcases List.mem_append.1 he with he | he
    ·exact hP.s3 e he
    ·exact hx.1.s3 e he
   ·show (p.f4 ++ _).length ≤ _
    rw [List.length_append]
    omega
   ·show (p.f5 ++ _).length ≤ _
    rw [List.length_append]
    omega
theorem res_ok (l : List S32) (h : LocsOk l) (id : ByteArray) (k : Nat) (hk : 10 < k) : ∀ (d i : Nat), i + d = l.length → (∃ j, i ≤ j ∧ ∃ hj : j < l.length, l[j].f0 = id) → ∃ r, resF k l id (l.drop i) (i : Int) = some r ∧ LocOk r 5 := by
 intro d
 induction d with
 | zero =>
  intro i hi ⟨j, hij, hj, _⟩
  exact absurd hj (by omega)
 | succ d ih =>
  intro i hi ⟨j, hij, hj, he⟩
  have hil : i < l.length := by omega
  have hl := h.1
  rw [List.drop_eq_getElem_cons hil, resF]
  by_cases c : l[i].f0.toList = id.toList
  ·rw [if_pos c]
   obtain ⟨r, hr, hR⟩ := at5_ok l h k i hil (by omega)
   exact ⟨r, hr, by have := hR.h3; omega, hR.s3, by have := hR.h4; omega, by have := hR.h5; omega⟩
  ·rw [if_neg c]
   have hne : i ≠ j := by
    rintro rfl
    exact c (by rw [he])
   exact ih (i + 1) (by omega) ⟨j, by omega, hj, he⟩
theorem locale_ok (a0 a1 a2 a3 : Int) (l : List S85) (b : Bool) (n : Int) (k : Nat) (hk : 10 < k) : ∃ x : S32, interlocutorlaw6_Locale.f k a0 a1 a2 a3 l b n = some (x.f0, x.f1, x.f2, x.f3, x.f4, x.f5) ∧ LocOk x 5 := by
 obtain ⟨ls, hls, hL⟩ := shape_ok a0 a1 a2 a3 l b
 have h10 := hL.1
 have h0 := hL.2.1
 unfold interlocutorlaw6_Locale.f
 rw [hls, Option.bind_some, within_ok n _ (by omega) (by omega), Option.bind_some]
 have h1 := Int.emod_nonneg n (show (ls.length : Int) ≠ 0 by omega)
 have h2 := Int.emod_lt_of_pos n (show (0 : Int) < (ls.length : Int) by omega)
 rw [if_pos ⟨h1, h2⟩]
 obtain ⟨t, ht⟩ := Int.eq_ofNat_of_zero_le h1
 have htl : t < ls.length := by omega
 rw [ht, rdL_get ls t htl]
 obtain ⟨r, hr, hR⟩ := res_ok ls hL ls[t].f0 k hk ls.length 0 (by omega) ⟨t, by omega, htl, rfl⟩
 rw [List.drop_zero] at hr
 rw [show (0 : Int) = ((0 : Nat) : Int) from rfl, hr, Option.bind_some]
 exact ⟨r, rfl, hR⟩
end Go.Proofs.Ytgbnfjhmobeloaa.Plain

namespace Go.Proofs.Ytgbnfjhmobeloaa.Plain
open Go.RowKit Go.Proofs.Ytgbnfjhmobeloaa.G Go.Proofs.YtgbnfjhmobeloaaW.PrintWords Go.Proofs.YtgbnfjhmobeloaaW.PrintLast Go.Proofs.YtgbnfjhmobeloaaW.PrintMore
set_option linter.unusedVariables false
set_option linter.unusedSimpArgs false
theorem opt_len {α : Type} (o : Option α) : o.toList.length ≤ 1 := by cases o <;> simp
theorem rawAt_len (l : List Int) (ws : List S71) (p : Nat) : (rawAt l ws p).length ≤ ws.length + 2 := by
 unfold rawAt signsAt
 rw [List.length_map]
 split
 ·rw [List.length_append, List.length_append]
  have h1 := opt_len (numTok l (pastF isBlank l p))
  have h2 := opt_len (markTok l (pastF isBlank l p))
  have h3 := List.length_filterMap_le (wordTok l (pastF isBlank l p)) ws
  omega
 ·exact Nat.zero_le _
theorem rawF_len (l : List Int) (ws : List S71) : ∀ n, (rawF l ws n).length ≤ n * (ws.length + 2)
 | 0 => by simp [rawF]
 | n + 1 => by
  rw [rawF_succ, List.length_append, Nat.succ_mul]
  have := rawF_len l ws n
  have := rawAt_len l ws n
  omega
theorem tok_len (lex : List S53) (l : List Int) : (tokF lex l).length ≤ l.length * (lex.length + 2) := by
 unfold tokF
 have h1 := dedup_len (sortT (rawF l (wordsF lex) l.length))
 have h2 : (sortT (rawF l (wordsF lex) l.length)).length = (rawF l (wordsF lex) l.length).length := (List.mergeSort_perm _ _).length_eq
 have h3 := rawF_len l (wordsF lex) l.length
 have h4 : (wordsF lex).length = lex.length := by unfold wordsF; rw [List.length_map]
 rw [h4] at h3
 omega
theorem ltT_le {x y : S47} (h : ltT x y) : x.f0 ≤ y.f0 :=
 Int.not_lt.1 (fun hlt => ltT_irr x (ltT_trans h (ltT_f0 hlt)))
end Go.Proofs.Ytgbnfjhmobeloaa.Plain

namespace Go.Proofs.Ytgbnfjhmobeloaa.Plain
open Go.RowKit Go.Proofs.Ytgbnfjhmobeloaa.G Go.Proofs.YtgbnfjhmobeloaaW.PrintWords Go.Proofs.YtgbnfjhmobeloaaW.PrintLast Go.Proofs.YtgbnfjhmobeloaaW.PrintMore
set_option linter.unusedVariables false
set_option linter.unusedSimpArgs false
theorem past_le (p : Int → Bool) (l : List Int) (i : Nat) (h : i ≤ l.length) : i ≤ pastF p l i ∧ pastF p l i ≤ l.length := by
 unfold pastF
 have := (List.takeWhile_sublist (l := l.drop i) p).length_le
 rw [List.length_drop] at this
 omega
theorem while_mem (p : Int → Bool) : ∀ l : List Int, ∀ r ∈ l.takeWhile p, p r = true
 | [], r, h => by cases h
 | x :: xs, r, h => by
  rw [List.takeWhile_cons] at h
  by_cases c : p x = true
  ·rw [if_pos c] at h
   rcases List.mem_cons.1 h with rfl | h
   ·exact c
   ·exact while_mem p xs r h
  ·rw [if_neg c] at h
   cases h
theorem past_in (p : Int → Bool) (l : List Int) (i j : Nat) (h : i ≤ j) (hj : j < pastF p l i) : p (l.getD j 0) = true := by
 unfold pastF at hj
 have e : (l.drop i).takeWhile p <+: l.drop i := List.takeWhile_prefix p
 have h1 : j - i < ((l.drop i).takeWhile p).length := by omega
 have h2 := List.IsPrefix.getElem e h1
 have hm := List.getElem_mem h1
 have hp := while_mem p _ _ hm
 rw [h2] at hp
 have h3 : i + (j - i) < l.length := by
  have := e.length_le
  rw [List.length_drop] at this
  omega
 rw [List.getElem_drop] at hp
 rw [List.getD_eq_getElem?_getD, List.getElem?_eq_getElem (show j < l.length by omega)]
 have : l[i + (j - i)]'h3 = l[j]'(by omega) := by congr 1; omega
 rw [this] at hp
 exact hp
theorem past_stop (p : Int → Bool) (l : List Int) (i : Nat) (h : pastF p l i < l.length) (hi : i ≤ l.length) : p (l.getD (pastF p l i) 0) = false := by
 have key : ∀ m : List Int, (hm : (m.takeWhile p).length < m.length) → p (m[(m.takeWhile p).length]'hm) = false := by
  intro m
  induction m with
  | nil => intro hm; exact absurd hm (by simp)
  | cons x xs ih =>
   intro hm
   by_cases c : p x = true
   ·simp only [List.takeWhile_cons, if_pos c, List.length_cons] at hm ⊢
    simpa using ih (by simpa using hm)
   ·simp only [List.takeWhile_cons, if_neg c, List.length_nil]
    simpa using c
 unfold pastF at h ⊢
 have h1 : ((l.drop i).takeWhile p).length < (l.drop i).length := by rw [List.length_drop]; omega
 have := key (l.drop i) h1
 rw [List.getElem_drop] at this
 rw [List.getD_eq_getElem?_getD, List.getElem?_eq_getElem h]
 exact this
structure TokAt (lex : List S53) (l : List Int) (x : S47) (p q : Nat) : Prop where
 hp : p < l.length
 hq : q = pastF isBlank l p
 hql : q < l.length
 h0 : x.f0 = (p : Int)
 kind : ((q < pastF isDigit l q ∧ pastF isDigit l q - q ≤ 18) ∧ x.f1 = ((pastF isDigit l q : Nat) : Int) ∧ x.f2 = 0 ∧ x.f3 = numVal ((l.take (pastF isDigit l q)).drop q) ∧ x.f4 = ((pastF isDigit l q - q : Nat) : Int)) ∨
  (x.f1 = ((q + 1 : Nat) : Int) ∧ 50 ≤ x.f2) ∨ (∃ w ∈ wordsF lex, hereF l q w.f0 = true ∧ x.f1 = ((q + w.f0.length : Nat) : Int) ∧ x.f2 = w.f1 ∧ x.f3 = w.f2)
theorem tok_kind (lex : List S53) (l : List Int) (x : S47) (h : x ∈ tokF lex l) : ∃ p q, TokAt lex l x p q := by
 have h := (mem_tok lex l x).1 h
 unfold rawF at h
 obtain ⟨p, hp, hx⟩ := List.mem_flatMap.1 h
 have hp := List.mem_range.1 hp
 have e := rawAt_f0 hx
 unfold rawAt at hx
 obtain ⟨y, hy, rfl⟩ := List.mem_map.1 hx
 unfold signsAt at hy
 by_cases c : pastF isBlank l p < l.length
 ·rw [if_pos c] at hy
  refine ⟨p, pastF isBlank l p, hp, rfl, c, e, ?_⟩
  generalize pastF isBlank l p = q at hy c
  rcases List.mem_append.1 hy with hy | hy
  ·rcases List.mem_append.1 hy with hy | hy
   ·have hy := Option.mem_toList.1 hy
    unfold numTok at hy
    by_cases c2 : pastF isDigit l q = q ∨ 18 < pastF isDigit l q - q
    ·rw [if_pos c2] at hy
     cases hy
    ·rw [if_neg c2] at hy
     cases hy
     have := past_le isDigit l q (by omega)
     exact .inl ⟨by omega, rfl, rfl, rfl, rfl⟩
   ·have hy := Option.mem_toList.1 hy
    unfold markTok at hy
    by_cases c2 : 0 ≤ markAt (l.getD q 0)
    ·rw [if_pos c2] at hy
     cases hy
     exact .inr (.inl ⟨rfl, by show 50 ≤ 50 + markAt _; omega⟩)
    ·rw [if_neg c2] at hy
     cases hy
  ·obtain ⟨w, hw, hy⟩ := List.mem_filterMap.1 hy
   unfold wordTok at hy
   by_cases c2 : hereF l q w.f0 = true
   ·rw [if_pos c2] at hy
    cases hy
    exact .inr (.inr ⟨w, hw, c2, rfl, rfl, rfl⟩)
   ·rw [if_neg c2] at hy
    cases hy
 ·rw [if_neg c] at hy
  cases hy
theorem here_len {l : List Int} {q : Nat} {w : List Int} (h : hereF l q w = true) : 0 < w.length ∧ w.length ≤ l.length - q := by
 unfold hereF at h
 simp only [Bool.and_eq_true, decide_eq_true_eq] at h
 exact ⟨h.1, h.2.1⟩
theorem TokAt.ends {lex : List S53} {l : List Int} {x : S47} {p q : Nat} (h : TokAt lex l x p q) : (q : Int) < x.f1 ∧ x.f1 ≤ (l.length : Int) ∧ p ≤ q := by
 have h1 := past_le isBlank l p (by have := h.hp; omega)
 have hq := h.hq
 have hql := h.hql
 rcases h.kind with ⟨h2, h3, _⟩ | ⟨h3, _⟩ | ⟨w, _, h2, h3, _⟩
 ·have := past_le isDigit l q (by omega)
  rw [h3]
  omega
 ·rw [h3]
  omega
 ·have := here_len h2
  rw [h3]
  omega
end Go.Proofs.Ytgbnfjhmobeloaa.Plain

namespace Go.Proofs.Ytgbnfjhmobeloaa.Plain
open Go.RowKit Go.Proofs.Ytgbnfjhmobeloaa.G Go.Proofs.YtgbnfjhmobeloaaW.PrintWords Go.Proofs.YtgbnfjhmobeloaaW.PrintLast Go.Proofs.YtgbnfjhmobeloaaW.PrintMore
set_option linter.unusedVariables false
set_option linter.unusedSimpArgs false
def rn (L : List Int) : List Int := (sgn L.length L 0).map (fun x => runeP x.2)
theorem sgn_any : ∀ (n f : Nat) (L : List Int) (p q : Int), L.length ≤ n → n ≤ f → (sgn f L p).map (fun x => runeP x.2) = (sgn n L q).map (fun x => runeP x.2)
 | 0, f, L, p, q, h, _ => by
  obtain rfl : L = [] := List.length_eq_zero_iff.1 (by omega)
  cases f <;> simp [sgn]
 | n + 1, f, L, p, q, h, hf => by
  obtain ⟨f, rfl⟩ : ∃ m, f = m + 1 := ⟨f - 1, by omega⟩
  simp only [sgn]
  by_cases c : 0 < L.length
  ·rw [if_pos c, if_pos c, List.map_cons, List.map_cons]
   have hl := decL_len L c
   rw [sgn_any n f (L.drop (decL L).2) _ (q + (decL L).2) (by rw [List.length_drop]; omega) (by omega)]
  ·rw [if_neg c, if_neg c]
theorem rn_step (c : Int) (bs T : List Int) (hb : bs ≠ []) (h : decL (bs ++ T) = (c, bs.length)) : rn (bs ++ T) = runeP c :: rn T := by
 have hl : 0 < (bs ++ T).length := by
  cases bs with
  | nil => exact absurd rfl hb
  | cons b bs => simp
 unfold rn
 obtain ⟨n, hn⟩ : ∃ n, (bs ++ T).length = n + 1 := ⟨(bs ++ T).length - 1, by omega⟩
 rw [hn]
 simp only [sgn]
 rw [if_pos hl, List.map_cons, h, List.drop_left]
 congr 1
 exact sgn_any T.length n T _ 0 (Nat.le_refl _) (by
  have : 0 < bs.length := List.length_pos_iff.2 hb
  rw [List.length_append] at hn
  omega)
def GoodR (c : Int) : Prop := ((0 ≤ c ∧ c < 128) ∧ runeP c = c) ∨ c = 8364
def encR (c : Int) : List Int := if c < 128 then [c] else [226, 130, 172]
theorem euro_dec (T : List Int) : decL (226 :: 130 :: 172 :: T) = (8364, 3) := by
 unfold decL
 simp [ctn]
theorem digit_dec (T : List Int) : decL (217 :: 163 :: T) = (1635, 2) := by
 unfold decL
 simp [ctn]
theorem plain_dec (c : Int) (T : List Int) (h : 0 ≤ c ∧ c < 128) : decL (c :: T) = (c, 1) := by
 unfold decL
 have e0 : (c :: T).getD 0 0 = c := rfl
 rw [e0]
 simp only []
 rw [if_pos (by omega)]
theorem good_enc (c : Int) (h : GoodR c) (T : List Int) : rn (encR c ++ T) = c :: rn T := by
 rcases h with ⟨h, e⟩ | rfl
 ·have e1 : encR c = [c] := if_pos (by omega)
  rw [e1, rn_step c [c] T (by simp) (plain_dec c T h), e]
 ·rw [show encR 8364 = [226, 130, 172] from rfl, rn_step 8364 [226, 130, 172] T (by simp) (euro_dec T)]
  rfl
theorem good_one (c : Int) (h : GoodR c) : interlocutorref3_One.f c = some (strOfNums (encR c)) := by
 rcases h with ⟨h, _⟩ | rfl
 ·unfold interlocutorref3_One.f encR
  rw [if_pos h.2, if_pos h.2, Int.emod_eq_of_lt h.1 (by omega)]
 ·rfl
theorem enc_bytes (c : Int) (h : GoodR c) : ∀ x ∈ encR c, 0 ≤ x ∧ x ≤ 255 := by
 rcases h with ⟨h, _⟩ | rfl
 ·have e1 : encR c = [c] := if_pos (by omega)
  rw [e1]
  intro x hx
  rw [List.mem_singleton.1 hx]
  omega
 ·decide
theorem good_fold : ∀ b : Nat, b < 128 → GoodR (runeP (b : Int)) := by
 have h : ∀ b : Nat, b < 128 → (0 ≤ runeP (b : Int) ∧ runeP (b : Int) < 128) ∧ runeP (runeP (b : Int)) = runeP (b : Int) := by decide
 exact fun b hb => .inl (h b hb)
def GoodS (s : ByteArray) : Prop := ∃ rs, (∀ T, rn (bytesOf s ++ T) = rs ++ rn T) ∧ ∀ c ∈ rs, GoodR c
theorem bytesOf_append (a b : ByteArray) : bytesOf (a ++ b) = bytesOf a ++ bytesOf b := by
 unfold bytesOf
 simp [ByteArray.data_append, Lib.toList_data]
theorem GoodS.add {a b : ByteArray} (ha : GoodS a) (hb : GoodS b) : GoodS (a ++ b) := by
 obtain ⟨ra, h1, h2⟩ := ha
 obtain ⟨rb, h3, h4⟩ := hb
 refine ⟨ra ++ rb, fun T => by rw [bytesOf_append, List.append_assoc, h1, h3, List.append_assoc], fun c hc => ?_⟩
 rcases List.mem_append.1 hc with hc | hc
 ·exact h2 c hc
 ·exact h4 c hc
theorem GoodS.nil : GoodS (⟨#[]⟩ : ByteArray) := ⟨[], fun T => rfl, fun c hc => by cases hc⟩
theorem plain_good : ∀ L : List Nat, (∀ b ∈ L, b < 128) → ∃ rs, (∀ T, rn (L.map (fun (b : Nat) => (b : Int)) ++ T) = rs ++ rn T) ∧ ∀ c ∈ rs, GoodR c
 | [], _ => ⟨[], fun T => rfl, fun c hc => by cases hc⟩
 | b :: L, h => by
  obtain ⟨rs, h1, h2⟩ := plain_good L (fun x hx => h x (List.mem_cons_of_mem _ hx))
  have hb := h b (List.mem_cons_self ..)
  refine ⟨runeP (b : Int) :: rs, fun T => ?_, fun c hc => ?_⟩
  ·rw [List.map_cons, List.cons_append]
   have := rn_step (b : Int) [(b : Int)] (L.map (fun (b : Nat) => (b : Int)) ++ T) (by simp) (plain_dec _ _ (by omega))
   rw [List.singleton_append] at this
   rw [this, h1, List.cons_append]
  ·rcases List.mem_cons.1 hc with rfl | hc
   ·exact good_fold b hb
   ·exact h2 c hc
theorem ascii_good (s : ByteArray) (h : ∀ b ∈ s.data.toList, b.toNat < 128) : GoodS s := by
 obtain ⟨rs, h1, h2⟩ := plain_good (s.data.toList.map UInt8.toNat) (fun b hb => by obtain ⟨x, hx, rfl⟩ := List.mem_map.1 hb; exact h x hx)
 refine ⟨rs, fun T => ?_, h2⟩
 rw [← h1 T, List.map_map]
 rfl
theorem euro_good : GoodS (⟨#[226, 130, 172]⟩ : ByteArray) := by
 refine ⟨[8364], fun T => ?_, fun c hc => by rw [List.mem_singleton.1 hc]; exact .inr rfl⟩
 show rn ([226, 130, 172] ++ T) = _
 rw [rn_step 8364 [226, 130, 172] T (by simp) (euro_dec T)]
 rfl
theorem three_good : GoodS (⟨#[217, 163]⟩ : ByteArray) := by
 refine ⟨[51], fun T => ?_, fun c hc => by rw [List.mem_singleton.1 hc]; exact .inl ⟨by decide, by decide⟩⟩
 show rn ([217, 163] ++ T) = _
 rw [rn_step 1635 [217, 163] T (by simp) (digit_dec T)]
 rfl
end Go.Proofs.Ytgbnfjhmobeloaa.Plain

namespace Go.Proofs.Ytgbnfjhmobeloaa.Plain
open Go.RowKit Go.Proofs.Ytgbnfjhmobeloaa.G Go.Proofs.YtgbnfjhmobeloaaW.PrintWords Go.Proofs.YtgbnfjhmobeloaaW.PrintLast Go.Proofs.YtgbnfjhmobeloaaW.PrintMore
set_option linter.unusedVariables false
set_option linter.unusedSimpArgs false
theorem text_good_loop (l0 : List Int) (m : Nat) (hm : m ≤ 1000) (x5 : List ByteArray) (h5 : 0 < x5.length ∧ x5.length ≤ 1000) (h6 : ∀ x ∈ x5, GoodS x) :
  ∀ (d k i : Nat) (x6 t : ByteArray), m - i ≤ d → GoodS x6 → interlocutorlaw6_Text.l0 k l0 (m : Int) x5 x6 (i : Int) = some t → i ≤ m → GoodS t := by
 intro d
 have stop : ∀ (k i : Nat) (x6 t : ByteArray), GoodS x6 → ¬ (i < l0.length ∧ i < m) → interlocutorlaw6_Text.l0 k l0 (m : Int) x5 x6 (i : Int) = some t → GoodS t := by
  intro k i x6 t hx hn ht
  match k, ht with
  | 0, ht => cases ht
  | 1, ht =>
   simp only [interlocutorlaw6_Text.l0, interlocutorlaw6_Text.j1] at ht
   split at ht <;> cases ht
  | k + 2, ht =>
   simp only [interlocutorlaw6_Text.l0, interlocutorlaw6_Text.j1] at ht
   by_cases c : (i : Int) < (l0.length : Int)
   ·rw [if_pos c, decide_eq_false (by omega), if_neg (by simp)] at ht
    cases ht
    exact hx
   ·rw [if_neg c, if_neg (by simp)] at ht
    cases ht
    exact hx
 induction d with
 | zero => intro k i x6 t hd hx ht hi; exact stop k i x6 t hx (by omega) ht
 | succ d ih =>
  intro k i x6 t hd hx ht hi
  by_cases hn : i < l0.length ∧ i < m
  ·match k, ht with
   | 0, ht => cases ht
   | 1, ht =>
    simp only [interlocutorlaw6_Text.l0, interlocutorlaw6_Text.j1] at ht
    split at ht <;> cases ht
   | k + 2, ht =>
    have a5 : (i : Int) < (l0.length : Int) := by omega
    have a6 : (i : Int) < (m : Int) := by omega
    have a7 : (0 : Int) ≤ (i : Int) := by omega
    have hw : wrap64 ((i : Int) + 1) = ((i + 1 : Nat) : Int) := by rw [wrapIn _ (by omega) (by omega)]; omega
    simp only [interlocutorlaw6_Text.l0, interlocutorlaw6_Text.j1] at ht
    rw [if_pos a5, decide_eq_true a6, if_pos rfl, if_pos a7, if_pos a5, within_ok _ (x5.length : Int) (by omega) (by omega)] at ht
    simp only [Option.bind_some] at ht
    generalize rd l0 (i : Int) = q at ht
    have b0 := Int.emod_nonneg q (show (x5.length : Int) ≠ 0 by omega)
    have b1 := Int.emod_lt_of_pos q (show (0 : Int) < (x5.length : Int) by omega)
    have hu : GoodS (rdOf ByteArray.empty x5 (q % (x5.length : Int))) := by
     unfold rdOf
     rw [List.getD_eq_getElem?_getD, List.getElem?_eq_getElem (show (q % (x5.length : Int)).toNat < x5.length by omega)]
     exact h6 _ (List.getElem_mem _)
    generalize rdOf ByteArray.empty x5 (q % (x5.length : Int)) = u at hu ht
    rw [if_pos b0, if_pos b1] at ht
    split at ht
    ·rw [within_ok _ 3 (by omega) (by omega)] at ht
     simp only [Option.bind_some] at ht
     rw [hw] at ht
     split at ht
     ·split at ht
      ·exact ih k (i + 1) _ t (by omega) ((hx.add hu).add (ascii_good _ (by decide))) ht (by omega)
      ·cases ht
     ·exact ih k (i + 1) _ t (by omega) (hx.add hu) ht (by omega)
    ·cases ht
  ·exact stop k i x6 t hx hn ht
set_option maxRecDepth 100000 in
theorem text_good (l0 : List Int) (m : Nat) (hm : m ≤ 1000) (k : Nat) (t : ByteArray) (h : interlocutorlaw6_Text.f k l0 (m : Int) = some t) : GoodS t := by
 unfold interlocutorlaw6_Text.f at h
 refine text_good_loop l0 m hm _ (by decide) ?_ m k 0 _ t (by omega) GoodS.nil h (by omega)
 simp only [List.mem_cons, List.not_mem_nil, or_false]
 rintro x h
 repeat (rcases h with rfl | h; first | exact ascii_good _ (by decide) | exact euro_good | exact three_good)
theorem rn_nil : rn [] = [] := rfl
theorem runes_rn (s : ByteArray) : runesOf s = rn (bytesOf s) := by
 unfold runesOf sgnOf rn
 rw [bytesOf_length]
theorem runes_good {s : ByteArray} (h : GoodS s) : ∀ c ∈ runesOf s, GoodR c := by
 obtain ⟨rs, h1, h2⟩ := h
 have := h1 []
 rw [List.append_nil, rn_nil, List.append_nil] at this
 rw [runes_rn, this]
 exact h2
def encL (l : List Int) : List Int := l.flatMap encR
theorem encL_rn : ∀ l : List Int, (∀ c ∈ l, GoodR c) → rn (encL l) = l
 | [], _ => rfl
 | c :: l, h => by
  show rn (encR c ++ encL l) = _
  rw [good_enc c (h c (List.mem_cons_self ..)), encL_rn l (fun x hx => h x (List.mem_cons_of_mem _ hx))]
theorem encL_range (l : List Int) (h : ∀ c ∈ l, GoodR c) : ∀ x ∈ encL l, 0 ≤ x ∧ x ≤ 255 := by
 intro x hx
 obtain ⟨c, hc, hx⟩ := List.mem_flatMap.1 hx
 exact enc_bytes c (h c hc) x hx
theorem nums_size (l : List Int) : (strOfNums l).size = l.length := by
 unfold strOfNums
 show (List.toArray _).size = _
 simp
theorem nums_append (a b : List Int) : strOfNums a ++ strOfNums b = strOfNums (a ++ b) := by
 unfold strOfNums
 apply ByteArray.ext
 rw [ByteArray.data_append]
 simp
theorem bytes_of_nums (l : List Int) (h : ∀ x ∈ l, 0 ≤ x ∧ x ≤ 255) : bytesOf (strOfNums l) = l := by
 unfold bytesOf strOfNums
 simp only [List.toList_toArray, List.map_map]
 rw [List.map_congr_left (g := id), List.map_id]
 intro x hx
 have := h x hx
 simp only [Function.comp, id, UInt8.toNat_ofNat']
 omega
theorem encL_len (l : List Int) : (encL l).length ≤ 3 * l.length := by
 induction l with
 | nil => simp [encL]
 | cons c l ih =>
  have e : encL (c :: l) = encR c ++ encL l := rfl
  have h : (encR c).length ≤ 3 := by unfold encR; split <;> simp
  rw [e, List.length_append, List.length_cons]
  omega
theorem fold_enc (l : List Int) (h : ∀ c ∈ l, GoodR c) (hl : l.length ≤ 1000) : foldR (strOfNums (encL l)) = l := by
 have := encL_len l
 rw [foldR_runes _ (by rw [nums_size]; omega), runes_rn, bytes_of_nums _ (encL_range l h), encL_rn l h]
end Go.Proofs.Ytgbnfjhmobeloaa.Plain

namespace Go.Proofs.Ytgbnfjhmobeloaa.Pure
open Go.RowKit Go.Proofs.Ytgbnfjhmobeloaa.G Go.Proofs.YtgbnfjhmobeloaaW.PrintWords Go.Proofs.YtgbnfjhmobeloaaW.PrintLast Go.Proofs.YtgbnfjhmobeloaaW.PrintMore Go.Proofs.Ytgbnfjhmobeloaa.Plain
set_option linter.unusedVariables false
set_option linter.unusedSimpArgs false
def isX (x : S47) : Bool := decide (x.f2 = 9 ∧ x.f3 = 77)
def eqT (x y : S47) : Bool := x.f0 == y.f0 && (x.f1 == y.f1 && (x.f2 == y.f2 && (x.f3 == y.f3 && (x.f4 == y.f4))))
theorem tok_same (x y : S47) (h : x = y) : eqT x y = true := by
 subst h
 simp [eqT]
theorem tok_other (x y : S47) (h : x ≠ y) : eqT x y = false := by
 refine Bool.eq_false_iff.2 (fun hh => h ?_)
 simp only [eqT, Bool.and_eq_true, beq_iff_eq] at hh
 obtain ⟨h0, h1, h2, h3, h4⟩ := hh
 cases x
 cases y
 simp only at h0 h1 h2 h3 h4
 subst h0 h1 h2 h3 h4
 rfl
theorem more_walk (a b : List S47) (ha : a.length ≤ 100000000) (hb : b.length ≤ 100000000) (hab : b.length > a.length) (hx : ∀ x ∈ a, isX x = false) :
  ∀ (d k i j : Nat), i + d = b.length → 2 * d + 2 ≤ k → j ≤ a.length → (b.drop i).filter (fun x => !isX x) = a.drop j → interlocutorlaw6_LexMore.l1 k a b (j : Int) (i : Int) = some true := by
 intro d
 induction d with
 | zero =>
  intro k i j hi hk hj hf
  obtain ⟨k, rfl⟩ : ∃ m, k = m + 1 := ⟨k - 1, by omega⟩
  rw [List.drop_eq_nil_of_le (by omega)] at hf
  have hj2 : a.length ≤ j := List.drop_eq_nil_iff.1 hf.symm
  simp only [interlocutorlaw6_LexMore.l1]
  rw [if_neg (by omega), if_pos (by omega), decide_eq_true (by omega)]
 | succ d ih =>
  intro k i j hi hk hj hf
  obtain ⟨k, rfl⟩ : ∃ m, k = m + 2 := ⟨k - 2, by omega⟩
  have hib : i < b.length := by omega
  rw [List.drop_eq_getElem_cons hib] at hf
  simp only [interlocutorlaw6_LexMore.l1, interlocutorlaw6_LexMore.j4]
  rw [if_pos (by omega)]
  cases c : isX b[i] with
  | true =>
   rw [List.filter_cons_of_neg (by simp [c])] at hf
   have hc := of_decide_eq_true c
   have hne : ∀ hj' : j < a.length, b[i] ≠ a[j] := fun hj' e => by
    have := hx _ (List.getElem_mem hj')
    rw [← e, c] at this
    cases this
   have next := ih k (i + 1) j (by omega) (by omega) hj hf
   by_cases hj' : j < a.length
   ·rw [if_pos (by omega), if_pos (by omega), if_pos (by omega), rdT_get b i hib, rdT_get a j hj', show (b[i].f0 == a[j].f0 && (b[i].f1 == a[j].f1 && (b[i].f2 == a[j].f2 && (b[i].f3 == a[j].f3 && (b[i].f4 == a[j].f4))))) = false from tok_other _ _ (hne hj'), if_neg (by decide), if_pos (by omega), if_pos (by omega), if_pos hc.1, if_pos hc.2, wrap_succ i (by omega)]
    exact next
   ·rw [if_neg (by omega), rdT_get b i hib, if_neg (by decide), if_pos (by omega), if_pos (by omega), if_pos hc.1, if_pos hc.2, wrap_succ i (by omega)]
    exact next
  | false =>
   rw [List.filter_cons_of_pos (by simp [c])] at hf
   have hj' : j < a.length := by
    have := congrArg List.length hf
    rw [List.length_cons, List.length_drop] at this
    omega
   rw [List.drop_eq_getElem_cons hj'] at hf
   injection hf with he hf
   have next := ih k (i + 1) (j + 1) (by omega) (by omega) (by omega) hf
   rw [if_pos (by omega), if_pos (by omega), if_pos (by omega), rdT_get b i hib, rdT_get a j hj', show (b[i].f0 == a[j].f0 && (b[i].f1 == a[j].f1 && (b[i].f2 == a[j].f2 && (b[i].f3 == a[j].f3 && (b[i].f4 == a[j].f4))))) = true from tok_same _ _ he, if_pos rfl, wrap_succ j (by omega), wrap_succ i (by omega)]
   exact next
section
variable (lx : List S53) (w : ByteArray) (r : List Int)
theorem words_more : wordsF (lx ++ [(⟨w, 9, 77⟩ : S53)]) = wordsF lx ++ [⟨foldR w, 9, 77⟩] := by
 unfold wordsF
 rw [List.map_append]
 rfl
theorem signs_more (ws : List S71) (q : Nat) (x : S47) : x ∈ signsAt r (ws ++ [⟨foldR w, 9, 77⟩]) q ↔ x ∈ signsAt r ws q ∨ (q < r.length ∧ wordTok r q ⟨foldR w, 9, 77⟩ = some x) := by
 unfold signsAt
 by_cases c : q < r.length
 ·rw [if_pos c, if_pos c, List.filterMap_append, ← List.append_assoc, List.mem_append, List.mem_filterMap]
  constructor
  ·rintro (h | ⟨y, hy, h⟩)
   ·exact .inl h
   ·rw [List.mem_singleton.1 hy] at h
    exact .inr ⟨c, h⟩
  ·rintro (h | ⟨_, h⟩)
   ·exact .inl h
   ·exact .inr ⟨_, List.mem_singleton.2 rfl, h⟩
 ·rw [if_neg c, if_neg c]
  constructor
  ·intro h
   cases h
  ·rintro (h | ⟨h, _⟩)
   ·cases h
   ·exact absurd h c
theorem word_x {q : Nat} {x : S47} {v : List Int} (h : wordTok r q ⟨v, 9, 77⟩ = some x) : isX x = true := by
 unfold wordTok at h
 split at h
 ·injection h with h
  subst h
  rfl
 ·cases h
theorem more_filter (hl : ∀ e ∈ lx, ¬ (e.f1 = 9 ∧ e.f2 = 77)) : (tokF (lx ++ [(⟨w, 9, 77⟩ : S53)]) r).filter (fun x => !isX x) = tokF lx r := by
 refine rise_ext ((tok_rise _ r).filter _) (tok_rise lx r) (fun x => ?_)
 have plain : x ∈ tokF lx r → isX x = false := by
  intro h
  obtain ⟨p, q, hT⟩ := tok_kind lx r x h
  refine decide_eq_false (fun hh => ?_)
  rcases hT.kind with ⟨_, _, h2, _⟩ | ⟨_, h2⟩ | ⟨v, hv, _, _, h2, h3⟩
  ·omega
  ·omega
  ·unfold wordsF at hv
   obtain ⟨e, he, rfl⟩ := List.mem_map.1 hv
   exact hl e he ⟨h2.symm.trans hh.1, h3.symm.trans hh.2⟩
 rw [List.mem_filter, mem_tok, mem_tok, words_more]
 unfold rawF
 constructor
 ·rintro ⟨h, hx⟩
  obtain ⟨p, hp, h⟩ := List.mem_flatMap.1 h
  unfold rawAt at h
  obtain ⟨y, hy, rfl⟩ := List.mem_map.1 h
  rcases (signs_more w r (wordsF lx) _ y).1 hy with hy | ⟨_, hy⟩
  ·exact List.mem_flatMap.2 ⟨p, hp, List.mem_map.2 ⟨y, hy, rfl⟩⟩
  ·have := word_x r hy
   have e : isX (atP (p : Int) y) = isX y := rfl
   rw [e, this] at hx
   cases hx
 ·intro h
  have hpl := plain ((mem_tok lx r x).2 h)
  refine ⟨?_, by rw [hpl]; rfl⟩
  obtain ⟨p, hp, h⟩ := List.mem_flatMap.1 h
  unfold rawAt at h
  obtain ⟨y, hy, rfl⟩ := List.mem_map.1 h
  exact List.mem_flatMap.2 ⟨p, hp, List.mem_map.2 ⟨y, (signs_more w r (wordsF lx) _ y).2 (.inl hy), rfl⟩⟩
theorem more_new (k n : Nat) (hk : k < r.length) (hn : 0 < n) (hkn : k + n ≤ r.length) (hb : r.getD k 0 ≠ 32) (hw : foldR w = (r.take (k + n)).drop k) : ∃ x ∈ tokF (lx ++ [(⟨w, 9, 77⟩ : S53)]) r, isX x = true := by
 have hq : pastF isBlank r k = k := pastF_no isBlank r k hk (by
  unfold isBlank
  refine decide_eq_false (fun h => hb ?_)
  rw [List.getD_eq_getElem?_getD, List.getElem?_eq_getElem hk]
  exact h)
 have hlen : (foldR w).length = n := by rw [hw, List.length_drop, List.length_take]; omega
 have hh : hereF r k (foldR w) = true := by
  unfold hereF
  simp only [Bool.and_eq_true, decide_eq_true_eq]
  rw [hlen]
  exact ⟨by omega, by omega, hw.symm⟩
 have ht : wordTok r k ⟨foldR w, 9, 77⟩ = some ⟨0, ((k + (foldR w).length : Nat) : Int), 9, 77, 0⟩ := by
  unfold wordTok
  rw [if_pos hh]
 refine ⟨atP (k : Int) ⟨0, ((k + (foldR w).length : Nat) : Int), 9, 77, 0⟩, ?_, rfl⟩
 rw [mem_tok, words_more]
 unfold rawF
 refine List.mem_flatMap.2 ⟨k, List.mem_range.2 hk, ?_⟩
 unfold rawAt
 rw [hq]
 exact List.mem_map.2 ⟨_, (signs_more w r (wordsF lx) k _).2 (.inr ⟨hk, ht⟩), rfl⟩
end
section
variable (lx : List S53) (hx : lx.length ≤ 900) (hs : ∀ e ∈ lx, e.f0.size ≤ 1000000) (hl : ∀ e ∈ lx, ¬ (e.f1 = 9 ∧ e.f2 = 77)) (x0 : ByteArray) (x1 x2 : Int) (x4 : List S108) (x5 : List S138) (r : List Int) (hr : r.length ≤ 1000) (hg : ∀ c ∈ r, GoodR c) (k n : Nat) (hk : k < r.length) (hn : 0 < n) (hkn : k + n ≤ r.length) (hb : r.getD k 0 ≠ 32)
include hx hs hl hr hg hk hn hkn hb
theorem more_end (f : Nat) (hf : 100000000 ≤ f) : interlocutorlaw6_LexMore.j2 f r (strOfNums (encL ((r.take (k + n)).drop k))) x0 x1 x2 lx x4 x5 = some true := by
 obtain ⟨f, rfl⟩ : ∃ m, f = m + 1 := ⟨f - 1, by omega⟩
 have hsl : ∀ c ∈ (r.take (k + n)).drop k, GoodR c := fun c hc => hg c (List.mem_of_mem_take (List.mem_of_mem_drop hc))
 have hlen : ((r.take (k + n)).drop k).length ≤ 1000 := by rw [List.length_drop, List.length_take]; omega
 have hw := fold_enc _ hsl hlen
 have hwl := encL_len ((r.take (k + n)).drop k)
 generalize hW : strOfNums (encL ((r.take (k + n)).drop k)) = w at hw
 have hws : w.size ≤ 3000 := by rw [← hW, nums_size]; omega
 simp only [interlocutorlaw6_LexMore.j2]
 have t1 := tok_len lx r
 have t2 := tok_len (lx ++ [(⟨w, 9, 77⟩ : S53)]) r
 have m1 : r.length * (lx.length + 2) ≤ 1000 * 902 := Nat.mul_le_mul hr (by omega)
 have m2 : r.length * ((lx ++ [(⟨w, 9, 77⟩ : S53)]).length + 2) ≤ 1000 * 903 := Nat.mul_le_mul hr (by rw [List.length_append, List.length_singleton]; omega)
 have e1 := lex_Tokens.f_is x0 x1 x2 lx x4 x5 r (by omega) (by omega) hs
 have e2 := lex_Tokens.f_is x0 x1 x2 (lx ++ [(⟨w, 9, 77⟩ : S53)]) x4 x5 r (by omega) (by rw [List.length_append, List.length_singleton]; omega) (fun e he => by
  rcases List.mem_append.1 he with he | he
  ·exact hs e he
  ·rw [List.mem_singleton.1 he]
   show w.size ≤ 1000000
   omega)
 rw [Option.bind_some, List.length_nil, List.nil_append, if_pos (by omega), Option.bind_some, if_pos (by omega), e1, Option.bind_some, e2, Option.bind_some]
 have hfl := more_filter lx w r hl
 obtain ⟨y, hy, hyx⟩ := more_new lx w r k n hk hn hkn hb hw
 refine more_walk _ _ (by omega) (by omega) ?_ (fun x hx2 => ?_) (tokF (lx ++ [(⟨w, 9, 77⟩ : S53)]) r).length f 0 0 (by omega) (by omega) (Nat.zero_le _) (by rw [List.drop_zero, List.drop_zero]; exact hfl)
 ·rw [← hfl]
  refine Nat.lt_of_le_of_ne (List.length_filter_le _ _) (fun e => ?_)
  have := (List.filter_eq_self.1 (List.filter_sublist.eq_of_length e)) y hy
  rw [hyx] at this
  cases this
 ·rw [← hfl] at hx2
  have := (List.mem_filter.1 hx2).2
  simpa using this
theorem more_write : ∀ (d f i : Nat), i + d = k + n → k ≤ i → 100000000 + d + 1 ≤ f → interlocutorlaw6_LexMore.l0 f r (k : Int) (n : Int) (strOfNums (encL ((r.take i).drop k))) (i : Int) x0 x1 x2 lx x4 x5 = some true := by
 have hw : wrap64 ((k : Int) + (n : Int)) = ((k + n : Nat) : Int) := by rw [wrapIn _ (by omega) (by omega)]; omega
 intro d
 induction d with
 | zero =>
  intro f i hi hki hf
  obtain ⟨f, rfl⟩ : ∃ m, f = m + 1 := ⟨f - 1, by omega⟩
  obtain rfl : i = k + n := by omega
  simp only [interlocutorlaw6_LexMore.l0]
  rw [hw, if_neg (by omega)]
  exact more_end lx hx hs hl x0 x1 x2 x4 x5 r hr hg k n hk hn hkn hb f (by omega)
 | succ d ih =>
  intro f i hi hki hf
  obtain ⟨f, rfl⟩ : ∃ m, f = m + 1 := ⟨f - 1, by omega⟩
  have hil : i < r.length := by omega
  have hgi := hg _ (List.getElem_mem hil)
  have eg : rd r (i : Int) = r[i] := by
   show r.getD i 0 = _
   rw [List.getD_eq_getElem?_getD, List.getElem?_eq_getElem hil]
   rfl
  have es : strOfNums (encL ((r.take i).drop k)) ++ strOfNums (encR r[i]) = strOfNums (encL ((r.take (i + 1)).drop k)) := by
   rw [Plain.nums_append, List.take_succ_eq_append_getElem hil, List.drop_append_of_le_length (by rw [List.length_take]; omega)]
   unfold encL
   rw [List.flatMap_append]
   simp
  have hsz : (strOfNums (encL ((r.take (i + 1)).drop k))).size ≤ 3000 := by
   rw [nums_size]
   have := encL_len ((r.take (i + 1)).drop k)
   rw [List.length_drop, List.length_take] at this
   omega
  have hsz2 := hsz
  rw [← es, app_size] at hsz2
  simp only [interlocutorlaw6_LexMore.l0]
  rw [hw, if_pos (by omega), if_pos (by omega), if_pos (by omega), eg, good_one _ hgi, Option.bind_some, if_pos (by omega), es, wrap_succ i (by omega)]
  exact ih f (i + 1) (by omega) (by omega) (by omega)
end
theorem wrap_nat (a : Int) (n : Nat) (h : a = (n : Int)) (hn : n ≤ 1000000000000) : wrap64 a = (n : Int) := by rw [wrapIn _ (by omega) (by omega)]; exact h
theorem LexMore (a0 a1 a2 a3 : Int) (l : List S85) (b : Bool) (ns : List Int) (at_ size : Int) (hl : l.length ≤ 9223372036854775807) : ∃ k, interlocutorlaw6_LexMore.f k a0 a1 a2 a3 l b ns at_ size = some true := by
 obtain ⟨x, hx, hX⟩ := locale_ok a0 a1 a2 a3 l b 1 11 (by omega)
 obtain ⟨s, hs, hsz⟩ := text_ok ns 8 (by omega) 100 (by omega)
 have hlen := runesOf_length s
 have hgood := runes_good (text_good ns 8 (by omega) 100 s hs)
 have hlex : x.f3.length ≤ 1000 := by have := hX.h3; omega
 generalize hk : l.length + 200000000 = f
 obtain ⟨r, hr⟩ := few_ok a0 a1 a2 a3 l b hl f (by omega)
 obtain ⟨o, ho⟩ := ref_fold6 s (by omega) f (by omega)
 refine ⟨f, ?_⟩
 unfold interlocutorlaw6_LexMore.f
 rw [known_k _ (by omega), Option.bind_some, if_pos rfl, hr, Option.bind_some]
 cases r with
 | false => rfl
 | true =>
  rw [if_pos rfl, at_rounds (fun k => interlocutorlaw6_Locale.mono a0 a1 a2 a3 l b 1 k) (show 11 ≤ f by omega) hx, Option.bind_some, show (8 : Int) = ((8 : Nat) : Int) from rfl,
   at_rounds (fun k => interlocutorlaw6_Text.mono ns _ k) (show 100 ≤ f by omega) hs, Option.bind_some, ho, Option.bind_some]
  generalize runesOf s = rs at hgood hlen
  simp only []
  by_cases c0 : (rs.length : Int) = 0
  ·rw [if_pos c0]
  ·rw [if_neg c0, within_ok at_ (rs.length : Int) (by omega) (by omega), Option.bind_some]
   have k0 := Int.emod_nonneg at_ c0
   have k1 := Int.emod_lt_of_pos at_ (show (0 : Int) < (rs.length : Int) by omega)
   generalize at_ % (rs.length : Int) = q at k0 k1
   obtain ⟨k, rfl⟩ := Int.eq_ofNat_of_zero_le k0
   rw [wrap_nat ((rs.length : Int) - (k : Int)) (rs.length - k) (by omega) (by omega)]
   have m0 : 0 < mn 5 ((rs.length - k : Nat) : Int) ∧ mn 5 ((rs.length - k : Nat) : Int) ≤ 5 ∧ mn 5 ((rs.length - k : Nat) : Int) ≤ ((rs.length - k : Nat) : Int) := by
    unfold mn
    split <;> omega
   generalize mn 5 ((rs.length - k : Nat) : Int) = mm at m0
   rw [within_ok size mm (by omega) (by omega), Option.bind_some]
   have n0 := Int.emod_nonneg size (show mm ≠ 0 by omega)
   have n1 := Int.emod_lt_of_pos size (show 0 < mm by omega)
   generalize size % mm = u at n0 n1
   obtain ⟨v, rfl⟩ := Int.eq_ofNat_of_zero_le n0
   rw [if_pos k0, if_pos k1, wrap_nat (1 + (v : Int)) (v + 1) (by omega) (by omega), wrap_nat ((k : Int) + ((v + 1 : Nat) : Int)) (k + (v + 1)) (by omega) (by omega), wrap_nat (((k + (v + 1) : Nat) : Int) - 1) (k + v) (by omega) (by omega)]
   obtain ⟨f, rfl⟩ : ∃ m, f = m + 1 := ⟨f - 1, by omega⟩
   have main : rs.getD k 0 ≠ 32 → interlocutorlaw6_LexMore.l0 f rs (k : Int) ((v + 1 : Nat) : Int) (⟨#[]⟩ : ByteArray) (k : Int) x.f0 x.f1 x.f2 x.f3 x.f4 x.f5 = some true := fun hb => by
    have := more_write x.f3 (by have := hX.h3; omega) (fun e he => by have := (hX.s3 e he).1; omega) (fun e he => (hX.s3 e he).2.2) x.f0 x.f1 x.f2 x.f4 x.f5 rs (by omega) hgood k (v + 1) (by omega) (by omega) (by omega) hb (v + 1) f k (by omega) (Nat.le_refl _) (by omega)
    rw [List.drop_eq_nil_of_le (by rw [List.length_take]; omega), show strOfNums (encL []) = (⟨#[]⟩ : ByteArray) from rfl] at this
    exact this
   by_cases c1 : rd rs (k : Int) = 32
   ·rw [if_pos c1]
    simp only [interlocutorlaw6_LexMore.j0]
    rw [if_pos trivial]
   ·rw [if_neg c1, if_pos (by omega), if_pos (by omega)]
    simp only [interlocutorlaw6_LexMore.j0]
    split
    ·rfl
    ·exact main c1
end Go.Proofs.Ytgbnfjhmobeloaa.Pure
