import Derived.Test.YtjijikgandkphaaGreatDoorGx21
import Derived.Test.YtjijikgandkphaaGreatDoorGx22
import Derived.Test.YtjijikgandkphaaGreatDoorGx25
import Derived.Test.YtjijikgandkphaaGreatDoorGx23
import Derived.Test.YtjijikgandkphaaGreatDoorGx26
import Derived.Test.YtjijikgandkphaaGreatDoorGx20
import Derived.Test.YtjijikgandkphaaGreatDoorGx27
namespace Go.Proofs.YtjijikgandkphaaGreatDoor.Plain
open Go.RowKit Go.Proofs.YtjijikgandkphaaGreatDoor.G Go.Proofs.YtjijikgandkphaaGreatDoorW.PrintWords Go.Proofs.YtjijikgandkphaaGreatDoorW.PrintLast Go.Proofs.YtjijikgandkphaaGreatDoorW.PrintMore
set_option linter.unusedVariables false
set_option linter.unusedSimpArgs false
set_option maxRecDepth 100000 in
theorem known_ok : interlocutorlaw11_known.f 60 = some true := by decide +kernel
theorem known_at (k : Nat) (h : 60 ≤ k) : interlocutorlaw11_known.f k = some true := at_rounds interlocutorlaw11_known.mono h known_ok
theorem within_ok (a n : Int) (h : 0 < n) (h2 : n ≤ 4611686018427387904) : interlocutorlaw11_within.f a n = some (a % n) := by
 unfold interlocutorlaw11_within.f
 rw [if_neg (by omega)]
 have h1 := Int.emod_nonneg a (show n ≠ 0 by omega)
 have h2 := Int.emod_lt_of_pos a h
 rw [Int.tmod_eq_emod]
 have hn3 : (n.natAbs : Int) = n := by omega
 split
 ·rw [if_neg (by omega)]
  simp
 ·rw [hn3, if_pos (by omega), show wrap64 (a % n - n + n) = a % n by unfold wrap64; omega]
end Go.Proofs.YtjijikgandkphaaGreatDoor.Plain

namespace Go.Proofs.YtjijikgandkphaaGreatDoor.Plain
open Go.RowKit Go.Proofs.YtjijikgandkphaaGreatDoor.G Go.Proofs.YtjijikgandkphaaGreatDoorW.PrintWords Go.Proofs.YtjijikgandkphaaGreatDoorW.PrintLast Go.Proofs.YtjijikgandkphaaGreatDoorW.PrintMore
set_option linter.unusedVariables false
set_option linter.unusedSimpArgs false
theorem wrapIn (x : Int) (h0 : -9223372036854775808 ≤ x) (h1 : x ≤ 9223372036854775807) : wrap64 x = x := by
 unfold wrap64; omega
def runeP (a : Int) : Int :=
 let r := if 65281 ≤ a ∧ a ≤ 65374 then a - 65248 else a
 if r = 9 ∨ r = 160 ∨ (8192 ≤ r ∧ r ≤ 8202) ∨ r = 8239 ∨ r = 8287 ∨ r = 12288 then 32
 else if (8208 ≤ r ∧ r ≤ 8213) ∨ r = 8722 then 45
 else if r = 8216 ∨ r = 8217 ∨ r = 700 then 39
 else if 1632 ≤ r ∧ r ≤ 1641 then r - 1632 + 48
 else if 1776 ≤ r ∧ r ≤ 1785 then r - 1776 + 48
 else if 2406 ≤ r ∧ r ≤ 2415 then r - 2406 + 48
 else if (65 ≤ r ∧ r ≤ 90) ∨ (192 ≤ r ∧ r ≤ 222 ∧ r ≠ 215) ∨ (913 ≤ r ∧ r ≤ 937 ∧ r ≠ 930) ∨ (1040 ≤ r ∧ r ≤ 1071) then r + 32
 else if 1024 ≤ r ∧ r ≤ 1039 then r + 80
 else r
theorem in_ok (a b c : Int) : interlocutorref3_in.f a b c = some (decide (b ≤ a ∧ a ≤ c)) := by
 unfold interlocutorref3_in.f
 split
 ·congr 1
  rw [decide_eq_decide]
  omega
 ·congr 1
  symm
  rw [decide_eq_false_iff_not]
  omega
theorem blank_ok (r : Int) : interlocutorref3_blank.f r = some (decide (r = 9 ∨ r = 160 ∨ (8192 ≤ r ∧ r ≤ 8202) ∨ r = 8239 ∨ r = 8287 ∨ r = 12288)) := by
 unfold interlocutorref3_blank.f
 rw [in_ok]
 simp only [Option.bind_some]
 repeat' split
 all_goals
  congr 1
  rw [Bool.eq_iff_iff]
  simp only [beq_iff_eq, decide_eq_true_eq, true_iff] at *
  omega
theorem dash_ok (r : Int) : interlocutorref3_dash.f r = some (decide ((8208 ≤ r ∧ r ≤ 8213) ∨ r = 8722)) := by
 unfold interlocutorref3_dash.f
 rw [in_ok]
 simp only [Option.bind_some]
 repeat' split
 all_goals
  congr 1
  rw [Bool.eq_iff_iff]
  simp only [beq_iff_eq, decide_eq_true_eq, true_iff] at *
  omega
theorem quote_ok (r : Int) : interlocutorref3_quote.f r = some (decide (r = 8216 ∨ r = 8217 ∨ r = 700)) := by
 unfold interlocutorref3_quote.f
 repeat' split
 all_goals
  congr 1
  rw [Bool.eq_iff_iff]
  simp only [beq_iff_eq, decide_eq_true_eq, true_iff]
  omega
theorem digit_ok (r : Int) : interlocutorref3_digit.f r = some (if 1632 ≤ r ∧ r ≤ 1641 then r - 1632 else if 1776 ≤ r ∧ r ≤ 1785 then r - 1776 else if 2406 ≤ r ∧ r ≤ 2415 then r - 2406 else -1) := by
 unfold interlocutorref3_digit.f
 rw [in_ok, in_ok, in_ok]
 simp only [Option.bind_some, decide_eq_true_eq]
 repeat' split
 all_goals first
  | rfl
  | (rw [wrapIn _ (by omega) (by omega)])
  | omega
set_option maxHeartbeats 2000000 in
theorem ref_rune (a : Int) (h0 : -9223372036854775808 ≤ a) (h1 : a ≤ 9223372036854775807) : interlocutorref3_Rune.f 9 a = some (runeP a) := by
 have j2t : ∀ r : Int, interlocutorref3_Rune.j2 7 r true = some (wrap64 (r + 32)) := fun r => by simp [interlocutorref3_Rune.j2]
 have j2f : ∀ (k : Nat) (r : Int), interlocutorref3_Rune.j2 (k + 1) r false = some (if 1024 ≤ r ∧ r ≤ 1039 then wrap64 (r + 80) else r) := fun k r => by
  simp only [interlocutorref3_Rune.j2]
  rw [if_neg (by simp), in_ok]
  simp only [Option.bind_some, decide_eq_true_eq]
  split <;> rfl
 have j2a : ∀ (k : Nat) (r : Int) (b : Bool), interlocutorref3_Rune.j2 (k + 1) r b = some (if b = true then wrap64 (r + 32) else if 1024 ≤ r ∧ r ≤ 1039 then wrap64 (r + 80) else r) := fun k r b => by
  cases b
  ·rw [j2f]; simp
  ·simp [interlocutorref3_Rune.j2]
 have j1a : ∀ (k : Nat) (r : Int) (b : Bool), interlocutorref3_Rune.j1 (k + 2) r b = some (if b = true ∨ (913 ≤ r ∧ r ≤ 937 ∧ r ≠ 930) ∨ (1040 ≤ r ∧ r ≤ 1071) then wrap64 (r + 32) else if 1024 ≤ r ∧ r ≤ 1039 then wrap64 (r + 80) else r) := fun k r b => by
  simp only [interlocutorref3_Rune.j1]
  rw [in_ok, in_ok, j2a]
  simp only [Option.bind_some, j2a, decide_eq_true_eq]
  repeat' split
  all_goals first
   | rfl
   | (exfalso; simp_all; done)
   | (exfalso; simp_all; omega)
 have j0a : ∀ (k : Nat) (r : Int), -9223372036854775808 ≤ r → r ≤ 9223372036854775807 → interlocutorref3_Rune.j0 (k + 3) r = some (
   if r = 9 ∨ r = 160 ∨ (8192 ≤ r ∧ r ≤ 8202) ∨ r = 8239 ∨ r = 8287 ∨ r = 12288 then 32
   else if (8208 ≤ r ∧ r ≤ 8213) ∨ r = 8722 then 45
   else if r = 8216 ∨ r = 8217 ∨ r = 700 then 39
   else if 1632 ≤ r ∧ r ≤ 1641 then r - 1632 + 48
   else if 1776 ≤ r ∧ r ≤ 1785 then r - 1776 + 48
   else if 2406 ≤ r ∧ r ≤ 2415 then r - 2406 + 48
   else if (65 ≤ r ∧ r ≤ 90) ∨ (192 ≤ r ∧ r ≤ 222 ∧ r ≠ 215) ∨ (913 ≤ r ∧ r ≤ 937 ∧ r ≠ 930) ∨ (1040 ≤ r ∧ r ≤ 1071) then r + 32
   else if 1024 ≤ r ∧ r ≤ 1039 then r + 80
   else r) := fun k r g0 g1 => by
  simp only [interlocutorref3_Rune.j0]
  rw [blank_ok, dash_ok, quote_ok, digit_ok, in_ok, in_ok]
  simp only [Option.bind_some, decide_eq_true_eq, j2a, j1a]
  by_cases c1 : r = 9 ∨ r = 160 ∨ (8192 ≤ r ∧ r ≤ 8202) ∨ r = 8239 ∨ r = 8287 ∨ r = 12288
  ·rw [if_pos c1, if_pos c1]
  rw [if_neg c1, if_neg c1]
  by_cases c2 : (8208 ≤ r ∧ r ≤ 8213) ∨ r = 8722
  ·rw [if_pos c2, if_pos c2]
  rw [if_neg c2, if_neg c2]
  by_cases c3 : r = 8216 ∨ r = 8217 ∨ r = 700
  ·rw [if_pos c3, if_pos c3]
  rw [if_neg c3, if_neg c3]
  by_cases c4 : 1632 ≤ r ∧ r ≤ 1641
  ·simp only [if_pos c4]
   rw [if_pos (by omega), wrapIn _ (by omega) (by omega)]
   congr 1
   omega
  simp only [if_neg c4]
  by_cases c5 : 1776 ≤ r ∧ r ≤ 1785
  ·simp only [if_pos c5]
   rw [if_pos (by omega), wrapIn _ (by omega) (by omega)]
   congr 1
   omega
  simp only [if_neg c5]
  by_cases c6 : 2406 ≤ r ∧ r ≤ 2415
  ·simp only [if_pos c6]
   rw [if_pos (by omega), wrapIn _ (by omega) (by omega)]
   congr 1
   omega
  simp only [if_neg c6]
  rw [if_neg (by omega)]
  by_cases c7 : 65 ≤ r ∧ r ≤ 90
  ·rw [if_pos c7, if_pos c7, if_pos (Or.inl c7), wrapIn _ (by omega) (by omega)]
  rw [if_neg c7]
  by_cases c8 : 192 ≤ r ∧ r ≤ 222
  ·rw [if_pos c8]
   by_cases c9 : r = 215
   ·subst c9; rfl
   ·rw [if_pos (.inl (by simpa using c9)), if_pos (.inr (.inl ⟨c8.1, c8.2, c9⟩)), wrapIn _ (by omega) (by omega)]
  rw [if_neg c8]
  by_cases c10 : (913 ≤ r ∧ r ≤ 937 ∧ r ≠ 930) ∨ (1040 ≤ r ∧ r ≤ 1071)
  ·rw [if_pos (.inr c10), if_pos (.inr (.inr c10)), wrapIn _ (by omega) (by omega)]
  simp only [Bool.false_eq_true, false_or, if_neg c10]
  rw [if_neg (show ¬ ((65 ≤ r ∧ r ≤ 90) ∨ (192 ≤ r ∧ r ≤ 222 ∧ r ≠ 215) ∨ (913 ≤ r ∧ r ≤ 937 ∧ r ≠ 930) ∨ (1040 ≤ r ∧ r ≤ 1071)) by omega)]
  split
  ·rw [wrapIn _ (by omega) (by omega)]
  ·rfl
 unfold interlocutorref3_Rune.f
 rw [in_ok]
 simp only [Option.bind_some, decide_eq_true_eq]
 unfold runeP
 simp only []
 by_cases c : 65281 ≤ a ∧ a ≤ 65374
 ·rw [if_pos c, wrapIn _ (by omega) (by omega), j0a 6 _ (by omega) (by omega)]
  simp only [if_pos c]
 ·rw [if_neg c, j0a 6 _ (by omega) (by omega)]
  simp only [if_neg c]
theorem ref_rune_k (k : Nat) (hk : 9 ≤ k) (a : Int) (h0 : -9223372036854775808 ≤ a) (h1 : a ≤ 9223372036854775807) : interlocutorref3_Rune.f k a = some (runeP a) :=
 at_rounds (fun k => interlocutorref3_Rune.mono a k) hk (ref_rune a h0 h1)
def ctn (t : List Int) (k : Nat) : Bool := match t[k]? with | some b => b / 64 == 2 | none => false
def decL (l : List Int) : Int × Nat :=
 let b0 := l.getD 0 0
 if b0 < 128 then (b0, 1)
 else if b0 / 32 = 6 ∧ ctn l 1 = true then
  let c := b0 % 32 * 64 + l.getD 1 0 % 64
  if 128 ≤ c then (c, 2) else (65533, 1)
 else if b0 / 16 = 14 ∧ ctn l 1 = true ∧ ctn l 2 = true then
  let c := b0 % 16 * 4096 + l.getD 1 0 % 64 * 64 + l.getD 2 0 % 64
  if 2048 ≤ c ∧ ¬ (55296 ≤ c ∧ c ≤ 57343) then (c, 3) else (65533, 1)
 else if b0 / 8 = 30 ∧ ctn l 1 = true ∧ ctn l 2 = true ∧ ctn l 3 = true then
  let c := b0 % 8 * 262144 + l.getD 1 0 % 64 * 4096 + l.getD 2 0 % 64 * 64 + l.getD 3 0 % 64
  if 65536 ≤ c ∧ c ≤ 1114111 then (c, 4) else (65533, 1)
 else (65533, 1)
theorem byte_range (s : ByteArray) : ∀ x ∈ bytesOf s, 0 ≤ x ∧ x ≤ 255 := by
 intro x hx
 unfold bytesOf at hx
 obtain ⟨b, _, rfl⟩ := List.mem_map.1 hx
 have := b.toNat_lt
 omega
theorem getD_range (l : List Int) (h : ∀ x ∈ l, 0 ≤ x ∧ x ≤ 255) (k : Nat) : 0 ≤ l.getD k 0 ∧ l.getD k 0 ≤ 255 := by
 rw [List.getD_eq_getElem?_getD]
 rcases Nat.lt_or_ge k l.length with hk | hk
 ·rw [List.getElem?_eq_getElem hk]
  exact h _ (List.getElem_mem hk)
 ·rw [List.getElem?_eq_none hk]
  simp
theorem ctn_iff (l : List Int) (k : Nat) : ctn l k = true ↔ k < l.length ∧ l.getD k 0 / 64 = 2 := by
 unfold ctn
 rw [List.getD_eq_getElem?_getD]
 rcases Nat.lt_or_ge k l.length with hk | hk
 ·rw [List.getElem?_eq_getElem hk]
  simp [hk]
 ·rw [List.getElem?_eq_none hk]
  first | (simp; done) | (simp; omega)
theorem decL_len (l : List Int) (h : 0 < l.length) : 1 ≤ (decL l).2 ∧ (decL l).2 ≤ 4 ∧ (decL l).2 ≤ l.length := by
 unfold decL
 simp only []
 split
 ·exact ⟨by simp, by simp, by simp only []; omega⟩
 ·split
  ·rename_i hc
   rw [ctn_iff] at hc
   split
   ·exact ⟨by simp, by simp, by simp only []; omega⟩
   ·exact ⟨by simp, by simp, by simp only []; omega⟩
  ·split
   ·rename_i hc
    rw [ctn_iff, ctn_iff] at hc
    split
    ·exact ⟨by simp, by simp, by simp only []; omega⟩
    ·exact ⟨by simp, by simp, by simp only []; omega⟩
   ·split
    ·rename_i hc
     rw [ctn_iff, ctn_iff, ctn_iff] at hc
     split
     ·exact ⟨by simp, by simp, by simp only []; omega⟩
     ·exact ⟨by simp, by simp, by simp only []; omega⟩
    ·exact ⟨by simp, by simp, by simp only []; omega⟩
def Sign (r : Int) : Prop := 0 ≤ r ∧ r ≤ 1114111 ∧ ¬ (55296 ≤ r ∧ r ≤ 57343)
theorem decL_sign (l : List Int) (hb : ∀ x ∈ l, 0 ≤ x ∧ x ≤ 255) : Sign (decL l).1 := by
 have r0 := getD_range l hb 0
 have r1 := getD_range l hb 1
 have r2 := getD_range l hb 2
 unfold decL Sign
 simp only []
 split
 ·simp only []; omega
 ·split
  ·split <;> (simp only []; omega)
  ·split
   ·split <;> (simp only []; omega)
   ·split
    ·split <;> (simp only []; omega)
    ·simp only []; omega
def sgn : Nat → List Int → Int → List (Int × Int)
 | 0, _, _ => []
 | f + 1, l, p => if 0 < l.length then (p, (decL l).1) :: sgn f (l.drop (decL l).2) (p + (decL l).2) else []
def sgnOf (s : ByteArray) : List (Int × Int) := sgn s.size (bytesOf s) 0
theorem bt_getD (s : ByteArray) (i : Nat) : bt s (i : Int) = (bytesOf s).getD i 0 := by
 rw [← rd_bytesOf]
 unfold rd
 rfl
theorem size_ok (c : Int) (h0 : 0 ≤ c) (h1 : c ≤ 255) : interlocutorref3_size.f 5 c = some (if c < 128 then 1 else if 194 ≤ c ∧ c ≤ 223 then 2 else if 224 ≤ c ∧ c ≤ 239 then 3 else if 240 ≤ c ∧ c ≤ 244 then 4 else 0) := by
 have j1 : ∀ (k : Nat) (b : Bool), interlocutorref3_size.j1 (k + 1) c b = some (if b = true then 3 else if 240 ≤ c ∧ c ≤ 244 then 4 else 0) := fun k b => by
  simp only [interlocutorref3_size.j1]
  repeat' split
  all_goals first | rfl | (exfalso; omega)
 have j0 : ∀ (k : Nat) (b : Bool), interlocutorref3_size.j0 (k + 2) c b = some (if b = true then 2 else if 224 ≤ c ∧ c ≤ 239 then 3 else if 240 ≤ c ∧ c ≤ 244 then 4 else 0) := fun k b => by
  simp only [interlocutorref3_size.j0, j1, decide_eq_true_eq]
  repeat' split
  all_goals first | rfl | (exfalso; first | omega | simp_all) 
 unfold interlocutorref3_size.f
 rw [j0, j0]
 simp only [decide_eq_true_eq]
 repeat' split
 all_goals first | rfl | (exfalso; first | omega | simp_all)
theorem i64_small (n : Int) (h0 : 0 ≤ n) (h1 : n < 2 ^ 62) : IntKind.i64.wrap n = n := by rw [IntKind.wrap_i64]; omega
theorem and_i64 (x : Int) (h0 : 0 ≤ x) (h1 : x < 4611686018427387904) : Go.bits .and .i64 x 63 = x % 64 ∧ Go.bits .and .i64 x 31 = x % 32 ∧ Go.bits .and .i64 x 15 = x % 16 ∧ Go.bits .and .i64 x 7 = x % 8 :=
 ⟨bits_mask .i64 62 (by decide) i64_small 6 (by decide) x h0 h1, bits_mask .i64 62 (by decide) i64_small 5 (by decide) x h0 h1, bits_mask .i64 62 (by decide) i64_small 4 (by decide) x h0 h1, bits_mask .i64 62 (by decide) i64_small 3 (by decide) x h0 h1⟩
theorem or_i64 (x y : Int) (h0 : 0 ≤ x) (h1 : x < 4611686018427387904) (hx : x % 64 = 0) (h2 : 0 ≤ y) (h3 : y < 64) : Go.bits .or .i64 x y = x + y :=
 bits_join .i64 62 (by decide) i64_small 6 x y h0 hx h1 h2 h3 (by omega)
theorem next_step (s : ByteArray) (n x : Int) (i k : Nat) (hi : (i : Int) < n) (his : i < s.size) (hs : s.size ≤ 4611686018427387904) (h0 : 0 ≤ x) (h1 : x < 1099511627776) :
  interlocutorref3_next.l0 (k + 1) s n x (i : Int) = if (bytesOf s).getD i 0 / 64 = 2 then interlocutorref3_next.l0 k s n (x * 64 + (bytesOf s).getD i 0 % 64) ((i + 1 : Nat) : Int) else some (65533, 1) := by
 have hb := getD_range (bytesOf s) (byte_range s) i
 simp only [interlocutorref3_next.l0]
 rw [if_pos hi, if_pos (by omega), if_pos (by omega), bt_getD]
 generalize (bytesOf s).getD i 0 = b at hb ⊢
 by_cases c1 : b < 128
 ·rw [if_pos c1, if_neg (by omega)]
 ·rw [if_neg c1]
  by_cases c2 : b > 191
  ·rw [if_pos c2, if_neg (by omega)]
  ·rw [if_neg c2, if_pos (by omega), wrapIn (x * 64) (by omega) (by omega), wrapIn b (by omega) (by omega), (and_i64 b (by omega) (by omega)).1, or_i64 _ _ (by omega) (by omega) (by omega) (by omega) (by omega), wrapIn _ (by omega) (by omega)]
   rfl
theorem next_end (s : ByteArray) (n x : Int) (k : Nat) :
  interlocutorref3_next.l0 (k + 1) s n x n = if n = 3 then (if x < 2048 ∨ (55296 ≤ x ∧ x ≤ 57343) then some (65533, 1) else some (x, 3)) else if n = 4 then (if x < 65536 ∨ x > 1114111 then some (65533, 1) else some (x, 4)) else some (x, n) := by
 simp only [interlocutorref3_next.l0]
 rw [if_neg (by omega), in_ok]
 simp only [Option.bind_some, decide_eq_true_eq]
 by_cases c3 : n = 3
 ·subst c3
  rw [if_pos rfl, if_pos rfl]
  by_cases c : x < 2048
  ·rw [if_pos c, if_pos (.inl c)]
  ·rw [if_neg c]
   by_cases c' : 55296 ≤ x ∧ x ≤ 57343
   ·rw [if_pos c', if_pos (.inr c')]
   ·rw [if_neg c', if_neg (by omega), if_neg (by omega)]
 ·rw [if_neg c3, if_neg c3]
  by_cases c4 : n = 4
  ·subst c4
   rw [if_pos rfl, if_pos rfl]
   by_cases c : x < 65536
   ·rw [if_pos c, if_pos (.inl c)]
   ·rw [if_neg c]
    by_cases c' : x > 1114111
    ·rw [if_pos c', if_pos (.inr c')]
    ·rw [if_neg c', if_neg (by omega)]
  ·rw [if_neg c4, if_neg c4]
theorem next_j0 (s : ByteArray) (n m : Int) (k : Nat) (h : 0 < s.size) (hn : (n = 2 ∧ m = 32) ∨ (n = 3 ∧ m = 16) ∨ (n = 4 ∧ m = 8)) : interlocutorref3_next.j0 (k + 1) s n false = interlocutorref3_next.l0 k s n ((bytesOf s).getD 0 0 % m) 1 := by
 have hb := getD_range (bytesOf s) (byte_range s) 0
 simp only [interlocutorref3_next.j0]
 rw [if_neg (by simp), if_pos (by omega), show bt s 0 = (bytesOf s).getD 0 0 from bt_getD s 0]
 generalize (bytesOf s).getD 0 0 = b at hb ⊢
 rw [wrapIn b (by omega) (by omega)]
 have h3 := and_i64 b (by omega) (by omega)
 rcases hn with ⟨rfl, rfl⟩ | ⟨rfl, rfl⟩ | ⟨rfl, rfl⟩
 ·rw [if_pos (by decide +kernel), show shr .i64 255 (IntKind.u64.wrap (wrap64 (2 + 1))) = 31 by decide +kernel, h3.2.1]
 ·rw [if_pos (by decide +kernel), show shr .i64 255 (IntKind.u64.wrap (wrap64 (3 + 1))) = 15 by decide +kernel, h3.2.2.1]
 ·rw [if_pos (by decide +kernel), show shr .i64 255 (IntKind.u64.wrap (wrap64 (4 + 1))) = 7 by decide +kernel, h3.2.2.2]
theorem next_ok (s : ByteArray) (h : 0 < s.size) (hs : s.size ≤ 4611686018427387904) : interlocutorref3_next.f 12 s = some ((decL (bytesOf s)).1, ((decL (bytesOf s)).2 : Int)) := by
 have hl := bytesOf_length s
 have r0 := getD_range (bytesOf s) (byte_range s) 0
 have r1 := getD_range (bytesOf s) (byte_range s) 1
 have r2 := getD_range (bytesOf s) (byte_range s) 2
 have r3 := getD_range (bytesOf s) (byte_range s) 3
 unfold interlocutorref3_next.f
 rw [if_pos (by omega), show bt s 0 = (bytesOf s).getD 0 0 from bt_getD s 0, at_rounds (fun k => interlocutorref3_size.mono _ k) (show 5 ≤ 12 by omega) (size_ok _ r0.1 r0.2)]
 simp only [Option.bind_some]
 have s1 : ∀ (n x : Int) (k : Nat), 1 < n → 1 < s.size → 0 ≤ x → x < 1099511627776 → interlocutorref3_next.l0 (k + 1) s n x 1 = if (bytesOf s).getD 1 0 / 64 = 2 then interlocutorref3_next.l0 k s n (x * 64 + (bytesOf s).getD 1 0 % 64) 2 else some (65533, 1) := fun n x k a b c d => next_step s n x 1 k a b hs c d
 have s2 : ∀ (n x : Int) (k : Nat), 2 < n → 2 < s.size → 0 ≤ x → x < 1099511627776 → interlocutorref3_next.l0 (k + 1) s n x 2 = if (bytesOf s).getD 2 0 / 64 = 2 then interlocutorref3_next.l0 k s n (x * 64 + (bytesOf s).getD 2 0 % 64) 3 else some (65533, 1) := fun n x k a b c d => next_step s n x 2 k a b hs c d
 have s3 : ∀ (n x : Int) (k : Nat), 3 < n → 3 < s.size → 0 ≤ x → x < 1099511627776 → interlocutorref3_next.l0 (k + 1) s n x 3 = if (bytesOf s).getD 3 0 / 64 = 2 then interlocutorref3_next.l0 k s n (x * 64 + (bytesOf s).getD 3 0 % 64) 4 else some (65533, 1) := fun n x k a b c d => next_step s n x 3 k a b hs c d
 have bad : ∀ (n : Int), interlocutorref3_next.j0 12 s n true = some (65533, 1) := fun n => by simp only [interlocutorref3_next.j0]; rw [if_pos trivial]
 unfold decL
 simp only [ctn_iff, hl]
 generalize (bytesOf s).getD 1 0 = b1 at *
 generalize (bytesOf s).getD 2 0 = b2 at *
 generalize (bytesOf s).getD 3 0 = b3 at *
 have j0 := fun n m k hn => next_j0 s n m k h hn
 generalize (bytesOf s).getD 0 0 = b0 at *
 by_cases c1 : b0 < 128
 ·rw [if_pos c1, if_pos rfl, wrapIn _ (by omega) (by omega), if_pos c1]
  rfl
 rw [if_neg c1, if_neg c1]
 by_cases c2 : 194 ≤ b0 ∧ b0 ≤ 223
 ·rw [if_pos c2, if_neg (by omega), if_neg (by omega)]
  by_cases cs : s.size < 2
  ·rw [decide_eq_true (by omega), bad, if_neg (by omega), if_neg (by omega), if_neg (by omega)]
   rfl
  ·rw [decide_eq_false (by omega), j0 2 32 11 (.inl ⟨rfl, rfl⟩), s1 _ _ _ (by omega) (by omega) (by omega) (by omega)]
   by_cases cc : b1 / 64 = 2
   ·rw [if_pos cc, next_end, if_neg (show ¬ (2 : Int) = 3 by omega), if_neg (show ¬ (2 : Int) = 4 by omega), if_pos (by omega), if_pos (by omega)]
    rfl
   ·rw [if_neg cc, if_neg (by omega), if_neg (by omega), if_neg (by omega)]
    rfl
 rw [if_neg c2]
 by_cases c3 : 224 ≤ b0 ∧ b0 ≤ 239
 ·rw [if_pos c3, if_neg (by omega), if_neg (by omega)]
  by_cases cs : s.size < 3
  ·rw [decide_eq_true (by omega), bad, if_neg (by omega), if_neg (by omega), if_neg (by omega)]
   rfl
  ·rw [decide_eq_false (by omega), j0 3 16 11 (.inr (.inl ⟨rfl, rfl⟩)), s1 _ _ _ (by omega) (by omega) (by omega) (by omega), s2 _ _ _ (by omega) (by omega) (by omega) (by omega)]
   by_cases cc : b1 / 64 = 2
   ·rw [if_pos cc]
    by_cases cd : b2 / 64 = 2
    ·rw [if_pos cd, next_end, if_pos rfl, if_neg (show ¬ (b0 / 32 = 6 ∧ 1 < s.size ∧ b1 / 64 = 2) by omega), if_pos (show b0 / 16 = 14 ∧ (1 < s.size ∧ b1 / 64 = 2) ∧ 2 < s.size ∧ b2 / 64 = 2 by omega), show (b0 % 16 * 64 + b1 % 64) * 64 + b2 % 64 = b0 % 16 * 4096 + b1 % 64 * 64 + b2 % 64 by omega]
     by_cases ce : b0 % 16 * 4096 + b1 % 64 * 64 + b2 % 64 < 2048 ∨ (55296 ≤ b0 % 16 * 4096 + b1 % 64 * 64 + b2 % 64 ∧ b0 % 16 * 4096 + b1 % 64 * 64 + b2 % 64 ≤ 57343)
     ·rw [if_pos ce, if_neg (by omega)]
      rfl
     ·rw [if_neg ce, if_pos (by omega)]
      rfl
    ·rw [if_neg cd, if_neg (by omega), if_neg (by omega), if_neg (by omega)]
     rfl
   ·rw [if_neg cc, if_neg (by omega), if_neg (by omega), if_neg (by omega)]
    rfl
 rw [if_neg c3]
 by_cases c4 : 240 ≤ b0 ∧ b0 ≤ 244
 ·rw [if_pos c4, if_neg (by omega), if_neg (by omega)]
  by_cases cs : s.size < 4
  ·rw [decide_eq_true (by omega), bad, if_neg (by omega), if_neg (by omega), if_neg (by omega)]
   rfl
  ·rw [decide_eq_false (by omega), j0 4 8 11 (.inr (.inr ⟨rfl, rfl⟩)), s1 _ _ _ (by omega) (by omega) (by omega) (by omega), s2 _ _ _ (by omega) (by omega) (by omega) (by omega), s3 _ _ _ (by omega) (by omega) (by omega) (by omega)]
   by_cases cc : b1 / 64 = 2
   ·rw [if_pos cc]
    by_cases cd : b2 / 64 = 2
    ·rw [if_pos cd]
     by_cases ce : b3 / 64 = 2
     ·rw [if_pos ce, next_end, if_neg (show ¬ (4 : Int) = 3 by omega), if_pos rfl, if_neg (show ¬ (b0 / 32 = 6 ∧ 1 < s.size ∧ b1 / 64 = 2) by omega), if_neg (show ¬ (b0 / 16 = 14 ∧ (1 < s.size ∧ b1 / 64 = 2) ∧ 2 < s.size ∧ b2 / 64 = 2) by omega), if_pos (show b0 / 8 = 30 ∧ (1 < s.size ∧ b1 / 64 = 2) ∧ (2 < s.size ∧ b2 / 64 = 2) ∧ 3 < s.size ∧ b3 / 64 = 2 by omega), show ((b0 % 8 * 64 + b1 % 64) * 64 + b2 % 64) * 64 + b3 % 64 = b0 % 8 * 262144 + b1 % 64 * 4096 + b2 % 64 * 64 + b3 % 64 by omega]
      by_cases cf : b0 % 8 * 262144 + b1 % 64 * 4096 + b2 % 64 * 64 + b3 % 64 < 65536 ∨ b0 % 8 * 262144 + b1 % 64 * 4096 + b2 % 64 * 64 + b3 % 64 > 1114111
      ·rw [if_pos cf, if_neg (by omega)]
       rfl
      ·rw [if_neg cf, if_pos (by omega)]
       rfl
     ·rw [if_neg ce, if_neg (by omega), if_neg (by omega), if_neg (by omega)]
      rfl
    ·rw [if_neg cd, if_neg (by omega), if_neg (by omega), if_neg (by omega)]
     rfl
   ·rw [if_neg cc, if_neg (by omega), if_neg (by omega), if_neg (by omega)]
    rfl
 rw [if_neg c4, if_neg (by omega), if_pos rfl, bad]
 by_cases c5 : b0 / 32 = 6 ∧ 1 < s.size ∧ b1 / 64 = 2
 ·rw [if_pos c5, if_neg (by omega)]
  rfl
 ·rw [if_neg c5, if_neg (by omega)]
  by_cases c6 : b0 / 8 = 30 ∧ (1 < s.size ∧ b1 / 64 = 2) ∧ (2 < s.size ∧ b2 / 64 = 2) ∧ 3 < s.size ∧ b3 / 64 = 2
  ·rw [if_pos c6, if_neg (by omega)]
   rfl
  ·rw [if_neg c6]
   rfl
theorem bytes_extract (s : ByteArray) (i : Nat) : bytesOf (s.extract i s.size) = (bytesOf s).drop i := by
 unfold bytesOf
 rw [← List.map_drop]
 congr 1
 simp only [ByteArray.data_extract, Array.toList_extract, List.extract_eq_take_drop]
 exact List.take_of_length_le (by rw [List.length_drop, data_length]; omega)
theorem ref_fold_loop (s : ByteArray) (hs : s.size < 17592186044415) : ∀ (d k f i : Nat) (x4 x5 : List Int), s.size - i ≤ d → i ≤ s.size → d + 20 < k → s.size - i ≤ f → x4.length ≤ i → x5.length ≤ i →
  interlocutorref3_Fold.l0 k s x4 x5 (i : Int) = some (x4 ++ (sgn f ((bytesOf s).drop i) i).map (fun p => runeP p.2), x5 ++ (sgn f ((bytesOf s).drop i) i).map (fun p => p.1) ++ [(s.size : Int)]) := by
 intro d
 have hl := bytesOf_length s
 induction d with
 | zero =>
  intro k f i x4 x5 hd hi hk hf h4 h5
  obtain ⟨k, rfl⟩ : ∃ m, k = m + 1 := ⟨k - 1, by omega⟩
  simp only [interlocutorref3_Fold.l0]
  rw [if_neg (by omega), if_pos (by omega)]
  have : (bytesOf s).drop i = [] := List.drop_eq_nil_of_le (by omega)
  rw [this]
  cases f <;> simp [sgn]
 | succ d ih =>
  intro k f i x4 x5 hd hi hk hf h4 h5
  obtain ⟨k, rfl⟩ : ∃ m, k = m + 1 := ⟨k - 1, by omega⟩
  by_cases hlt : i < s.size
  ·obtain ⟨f, rfl⟩ : ∃ m, f = m + 1 := ⟨f - 1, by omega⟩
   simp only [interlocutorref3_Fold.l0, sgn]
   have hne : 0 < ((bytesOf s).drop i).length := by rw [List.length_drop]; omega
   rw [if_pos (by omega), if_pos (by omega), if_pos (by omega), Int.toNat_natCast, if_pos hne]
   have hsz : (s.extract i s.size).size = s.size - i := by rw [ByteArray.size_extract]; omega
   rw [at_rounds (fun k => interlocutorref3_next.mono _ k) (show 12 ≤ k by omega) (next_ok (s.extract i s.size) (by omega) (by omega)), bytes_extract]
   have hw := decL_len _ hne
   have hsg := decL_sign ((bytesOf s).drop i) (fun x hx => byte_range s x (List.mem_of_mem_drop hx))
   rw [List.length_drop] at hw
   generalize hq : decL ((bytesOf s).drop i) = q at *
   obtain ⟨r, wd⟩ := q
   simp only [Sign] at hsg hw
   simp only [Option.bind_some]
   rw [ref_rune_k k (by omega) r (by omega) (by omega)]
   simp only [Option.bind_some]
   rw [if_pos (by omega), if_pos (by omega), wrapIn _ (by omega) (by omega), show (i : Int) + (wd : Int) = ((i + wd : Nat) : Int) by omega]
   rw [ih k f (i + wd) _ _ (by omega) (by omega) (by omega) (by omega) (by simp; omega) (by simp; omega), List.drop_drop]
   simp [List.append_assoc]
  ·simp only [interlocutorref3_Fold.l0]
   rw [if_neg (by omega), if_pos (by omega)]
   have : (bytesOf s).drop i = [] := List.drop_eq_nil_of_le (by omega)
   rw [this]
   cases f <;> simp [sgn]
theorem ref_fold (s : ByteArray) (hs : s.size < 17592186044415) (k : Nat) (hk : s.size + 20 < k) : interlocutorref3_Fold.f k s = some ((sgnOf s).map (fun p => runeP p.2), (sgnOf s).map (fun p => p.1) ++ [(s.size : Int)]) := by
 unfold interlocutorref3_Fold.f
 have := ref_fold_loop s hs s.size k s.size 0 [] [] (by omega) (by omega) hk (by omega) (by simp) (by simp)
 rw [List.drop_zero] at this
 simpa [sgnOf] using this
end Go.Proofs.YtjijikgandkphaaGreatDoor.Plain

namespace Go.Proofs.YtjijikgandkphaaGreatDoor.Plain
open Go.RowKit Go.Proofs.YtjijikgandkphaaGreatDoor.G Go.Proofs.YtjijikgandkphaaGreatDoorW.PrintWords Go.Proofs.YtjijikgandkphaaGreatDoorW.PrintLast Go.Proofs.YtjijikgandkphaaGreatDoorW.PrintMore
set_option linter.unusedVariables false
set_option linter.unusedSimpArgs false
def rnD (L : List Int) : List Int := (sgn L.length L 0).map (fun x => runeP x.2)
theorem sgn_anyD : ∀ (n f : Nat) (L : List Int) (p q : Int), L.length ≤ n → n ≤ f → (sgn f L p).map (fun x => runeP x.2) = (sgn n L q).map (fun x => runeP x.2)
 | 0, f, L, p, q, h, _ => by
  obtain rfl : L = [] := List.length_eq_zero_iff.1 (by omega)
  cases f <;> simp [sgn]
 | n + 1, f, L, p, q, h, hf => by
  obtain ⟨f, rfl⟩ : ∃ m, f = m + 1 := ⟨f - 1, by omega⟩
  simp only [sgn]
  by_cases c : 0 < L.length
  ·rw [if_pos c, if_pos c, List.map_cons, List.map_cons]
   have hl := decL_len L c
   rw [sgn_anyD n f (L.drop (decL L).2) _ (q + (decL L).2) (by rw [List.length_drop]; omega) (by omega)]
  ·rw [if_neg c, if_neg c]
theorem rnD_step (c : Int) (bs T : List Int) (hb : bs ≠ []) (h : decL (bs ++ T) = (c, bs.length)) : rnD (bs ++ T) = runeP c :: rnD T := by
 have hl : 0 < (bs ++ T).length := by
  cases bs with
  | nil => exact absurd rfl hb
  | cons b bs => simp
 unfold rnD
 obtain ⟨n, hn⟩ : ∃ n, (bs ++ T).length = n + 1 := ⟨(bs ++ T).length - 1, by omega⟩
 rw [hn]
 simp only [sgn]
 rw [if_pos hl, List.map_cons, h, List.drop_left]
 congr 1
 exact sgn_anyD T.length n T _ 0 (Nat.le_refl _) (by
  have : 0 < bs.length := List.length_pos_iff.2 hb
  rw [List.length_append] at hn
  omega)
def encD (dg d : Nat) : List Int := match dg with
 | 0 => [48 + d]
 | 1 => [217, 160 + d]
 | 2 => [219, 176 + d]
 | _ => [224, 165, 166 + d]
def zeroD (dg : Nat) : Int := match dg with
 | 0 => 48
 | 1 => 1632
 | 2 => 1776
 | _ => 2406
set_option maxRecDepth 100000 in
theorem digit_enc : ∀ (dg : Fin 4) (d : Fin 10), fold_Digit.f 60 (dg.val : Int) (d.val : Int) = some (strOfNums (encD dg.val d.val)) := by decide +kernel
theorem digit_fold : ∀ (dg : Fin 4) (d : Fin 10), runeP (zeroD dg.val + (d.val : Int)) = 48 + (d.val : Int) := by decide +kernel
theorem digit_dec (dg d : Nat) (hg : dg < 4) (hd : d < 10) (T : List Int) : decL (encD dg d ++ T) = (zeroD dg + (d : Int), (encD dg d).length) := by
 obtain rfl | rfl | rfl | rfl : dg = 0 ∨ dg = 1 ∨ dg = 2 ∨ dg = 3 := by omega
 all_goals
  obtain rfl | rfl | rfl | rfl | rfl | rfl | rfl | rfl | rfl | rfl : d = 0 ∨ d = 1 ∨ d = 2 ∨ d = 3 ∨ d = 4 ∨ d = 5 ∨ d = 6 ∨ d = 7 ∨ d = 8 ∨ d = 9 := by omega
 all_goals
  unfold decL
  simp [ctn, encD, zeroD]
theorem rnD_digits (dg : Nat) (hg : dg < 4) : ∀ (ds : List Nat), (∀ d ∈ ds, d < 10) → rnD (ds.flatMap (encD dg)) = ds.map (fun d : Nat => 48 + (d : Int))
 | [], _ => rfl
 | d :: ds, h => by
  have hd := h d (List.mem_cons_self ..)
  rw [List.flatMap_cons, rnD_step _ _ _ (by unfold encD; split <;> simp) (digit_dec dg d hg hd _), rnD_digits dg hg ds (fun x hx => h x (List.mem_cons_of_mem _ hx)), List.map_cons]
  have := digit_fold ⟨dg, hg⟩ ⟨d, hd⟩
  rw [this]
def digsN : Nat → Nat → List Nat
 | 0, u => [u]
 | n + 1, u => if u < 10 then [u] else digsN n (u / 10) ++ [u % 10]
theorem decK_digs : ∀ (n u : Nat), u < 10 ^ (n + 1) → decK n u = (digsN n u).map (fun d => UInt8.ofNat (48 + d))
 | 0, u, _ => rfl
 | n + 1, u, h => by
  rw [decK, digsN]
  by_cases hu : u < 10
  ·rw [if_pos hu, if_pos hu]
   rfl
  ·rw [if_neg hu, if_neg hu, decK_digs n (u / 10) (by rw [Nat.pow_succ] at h; omega), List.map_append]
   rfl
theorem digs_lt : ∀ (n u : Nat), u < 10 ^ (n + 1) → ∀ d ∈ digsN n u, d < 10
 | 0, u, h, d, hd => by
  obtain rfl := List.mem_singleton.1 hd
  simpa using h
 | n + 1, u, h, d, hd => by
  rw [digsN] at hd
  by_cases hu : u < 10
  ·rw [if_pos hu] at hd
   obtain rfl := List.mem_singleton.1 hd
   exact hu
  ·rw [if_neg hu, List.mem_append] at hd
   rcases hd with hd | hd
   ·exact digs_lt n (u / 10) (by rw [Nat.pow_succ] at h; omega) d hd
   ·obtain rfl := List.mem_singleton.1 hd
    omega
theorem digs_len : ∀ (n u : Nat), 1 ≤ (digsN n u).length ∧ (digsN n u).length ≤ n + 1
 | 0, u => by simp [digsN]
 | n + 1, u => by
  rw [digsN]
  have := digs_len n (u / 10)
  split
  ·simp
  ·simp only [List.length_append, List.length_singleton]
   omega
theorem digs_len_le : ∀ (n m u : Nat), u < 10 ^ (m + 1) → (digsN n u).length ≤ m + 1
 | 0, m, u, _ => by simp [digsN]
 | n + 1, m, u, h => by
  rw [digsN]
  by_cases hu : u < 10
  ·rw [if_pos hu]
   simp
  ·rw [if_neg hu]
   cases m with
   | zero => exact absurd h (by simpa using hu)
   | succ m =>
    have := digs_len_le n m (u / 10) (by rw [Nat.pow_succ] at h; omega)
    simp only [List.length_append, List.length_singleton]
    omega
def valD (v : Nat) (ds : List Nat) : Nat := ds.foldl (fun x d => 10 * x + d) v
theorem valD_digs : ∀ (n u : Nat), valD 0 (digsN n u) = u
 | 0, u => by simp [valD, digsN]
 | n + 1, u => by
  rw [digsN]
  by_cases hu : u < 10
  ·rw [if_pos hu]
   simp [valD]
  ·rw [if_neg hu, valD, List.foldl_append]
   have := valD_digs n (u / 10)
   unfold valD at this
   rw [this]
   simp only [List.foldl_cons, List.foldl_nil]
   omega
theorem digs_head : ∀ (n u : Nat), 10 ≤ u → ∃ d ds, digsN n u = d :: ds ∧ d ≠ 0
 | 0, u, h => ⟨u, [], rfl, by omega⟩
 | n + 1, u, h => by
  rw [digsN, if_neg (by omega)]
  by_cases hu : 10 ≤ u / 10
  ·obtain ⟨d, ds, e, hd⟩ := digs_head n (u / 10) hu
   exact ⟨d, ds ++ [u % 10], by rw [e]; rfl, hd⟩
  ·cases n with
   | zero => exact ⟨u / 10, [u % 10], rfl, by omega⟩
   | succ n => exact ⟨u / 10, [u % 10], by rw [digsN, if_pos (by omega)]; rfl, by omega⟩
end Go.Proofs.YtjijikgandkphaaGreatDoor.Plain

namespace Go.Proofs.YtjijikgandkphaaGreatDoor.Plain
open Go.RowKit Go.Proofs.YtjijikgandkphaaGreatDoor.G Go.Proofs.YtjijikgandkphaaGreatDoorW.PrintWords Go.Proofs.YtjijikgandkphaaGreatDoorW.PrintLast Go.Proofs.YtjijikgandkphaaGreatDoorW.PrintMore
set_option linter.unusedVariables false
set_option linter.unusedSimpArgs false
theorem nums_sizeD (l : List Int) : (strOfNums l).size = l.length := by
 simp [strOfNums, ByteArray.size]
theorem nums_appendD (a b : List Int) : strOfNums a ++ strOfNums b = strOfNums (a ++ b) := by
 apply ByteArray.ext
 simp [strOfNums]
theorem trim_digits (l : List UInt8) (h : ∃ b r, l = b :: r ∧ b ≠ 45) : strings_TrimPrefix.f ⟨l.toArray⟩ (⟨#[45]⟩ : ByteArray) = some ⟨l.toArray⟩ := by
 obtain ⟨b, r, rfl, hb⟩ := h
 have hs : (⟨(b :: r).toArray⟩ : ByteArray).size = r.length + 1 := by simp [ByteArray.size]
 have h1 : (⟨#[45]⟩ : ByteArray).size = 1 := rfl
 have he : (((⟨(b :: r).toArray⟩ : ByteArray).extract 0 1).toList == (⟨#[45]⟩ : ByteArray).toList) = false := by
  simp [Lib.toList_data, hb]
 unfold strings_TrimPrefix.f stringslite_TrimPrefix.f stringslite_HasPrefix.f
 rw [hs, h1, if_pos (by omega), if_pos (by omega), if_pos (by omega), Option.bind_some, show (((1 : Nat) : Int)).toNat = 1 from rfl, he, if_neg (by decide), Option.bind_some]
theorem dec_head (u : Nat) (hu : u < 1000000000000000000000) : ∃ b r, decK 20 u = b :: r ∧ b ≠ 45 := by
 rw [decK_digs 20 u (by omega)]
 have hl := digs_len 20 u
 have hd := digs_lt 20 u (by omega)
 cases hc : digsN 20 u with
 | nil => rw [hc] at hl; simp at hl
 | cons d ds =>
  refine ⟨_, _, rfl, ?_⟩
  have h := hd d (by rw [hc]; exact List.mem_cons_self ..)
  obtain rfl | rfl | rfl | rfl | rfl | rfl | rfl | rfl | rfl | rfl : d = 0 ∨ d = 1 ∨ d = 2 ∨ d = 3 ∨ d = 4 ∨ d = 5 ∨ d = 6 ∨ d = 7 ∨ d = 8 ∨ d = 9 := by omega
  all_goals decide
def fldN (u : Nat) : S118 := ⟨(u : Int), ⟨(decK 20 u).toArray⟩, false, false, false⟩
theorem plainF_ok (u : Nat) (hu : u < 9007199254740992) : plainF (u : Int) = some (fldN u) := by
 have hi : strconv_Itoa.f (u : Int) = some ⟨(decK 20 u).toArray⟩ := by
  unfold strconv_Itoa.f itoaK
  rw [if_pos (by omega), if_neg (by omega), Int.toNat_natCast]
 unfold plainF render_plain.f
 rw [hi, Option.bind_some, trim_digits _ (dec_head u (by omega)), Option.bind_some, decide_eq_false (by omega)]
 rfl
theorem durF_ok (v : Nat) (hv : v < 9007199254740992) : durF [(v : Int)] = some [fldN v, fldN (v / 3600), fldN (v / 60 % 60), fldN (v % 60)] := by
 have e1 : wrap64 (Int.tdiv (v : Int) 3600) = ((v / 3600 : Nat) : Int) := by
  rw [Int.tdiv_eq_ediv_of_nonneg (by omega)]; unfold wrap64; omega
 have e2 : Int.tmod (wrap64 (Int.tdiv (v : Int) 60)) 60 = ((v / 60 % 60 : Nat) : Int) := by
  rw [Int.tdiv_eq_ediv_of_nonneg (by omega), show wrap64 ((v : Int) / 60) = ((v / 60 : Nat) : Int) by unfold wrap64; omega, Int.tmod_eq_emod_of_nonneg (by omega)]; omega
 have e3 : Int.tmod (v : Int) 60 = ((v % 60 : Nat) : Int) := by
  rw [Int.tmod_eq_emod_of_nonneg (by omega)]; omega
 unfold durF
 rw [if_pos (by show 0 < 1; decide), show rd [(v : Int)] 0 = (v : Int) from rfl, plainF_ok v hv, Option.bind_some, e1, plainF_ok _ (by omega), Option.bind_some, e2, plainF_ok _ (by omega), Option.bind_some, e3, plainF_ok _ (by omega), Option.bind_some]
theorem bytes_digs (ds : List Nat) (h : ∀ d ∈ ds, d < 10) : bytesOf ⟨(ds.map (fun d => UInt8.ofNat (48 + d))).toArray⟩ = ds.map (fun d : Nat => 48 + (d : Int)) := by
 unfold bytesOf
 rw [List.map_map]
 refine List.map_congr_left fun d hd => ?_
 have := h d hd
 show ((UInt8.ofNat (48 + d)).toNat : Int) = 48 + (d : Int)
 rw [UInt8.toNat_ofNat']
 omega
theorem enc_len (dg d : Nat) : (encD dg d).length ≤ 3 := by
 unfold encD
 split <;> simp
theorem shown_ok (dg : Nat) (hg : dg < 4) : ∀ (ds : List Nat) (acc : List Int), (∀ d ∈ ds, d < 10) → acc.length + 3 * ds.length ≤ 1000000 → shownF 60 (dg : Int) (ds.map (fun d : Nat => 48 + (d : Int))) (strOfNums acc) = some (strOfNums (acc ++ ds.flatMap (encD dg)))
 | [], acc, _, _ => by simp [shownF]
 | d :: ds, acc, h, hl => by
  have hd := h d (List.mem_cons_self ..)
  have he := digit_enc ⟨dg, hg⟩ ⟨d, hd⟩
  have hn := enc_len dg d
  rw [List.length_cons] at hl
  rw [List.map_cons, shownF, show (48 + (d : Int) - 48) % 256 = (d : Int) by omega]
  rw [show fold_Digit.f 60 (dg : Int) (d : Int) = some (strOfNums (encD dg d)) from he, Option.bind_some, nums_sizeD, nums_sizeD, if_pos (by omega), nums_appendD, shown_ok dg hg ds _ (fun x hx => h x (List.mem_cons_of_mem _ hx)) (by rw [List.length_append]; omega), List.flatMap_cons, List.append_assoc]
theorem repeat_zero : ∀ n : Nat, Lib.repeatL [48] n = (List.replicate n 0).map (fun d => UInt8.ofNat (48 + d))
 | 0 => rfl
 | n + 1 => by
  rw [Lib.repeatL, repeat_zero n, List.replicate_succ, List.map_cons]
  rfl
def wide (w u : Nat) : List Nat := List.replicate (w - (digsN 20 u).length) 0 ++ digsN 20 u
theorem wide_lt (w u : Nat) (hu : u < 9007199254740992) : ∀ d ∈ wide w u, d < 10 := fun d hd => by
 rcases List.mem_append.1 hd with h | h
 ·rw [List.eq_of_mem_replicate h]; omega
 ·exact digs_lt 20 u (by omega) d h
theorem wide_len (w u : Nat) (hw : w < 10) (hu : u < 9007199254740992) : (wide w u).length ≤ 16 ∧ w ≤ (wide w u).length := by
 have := digs_len_le 20 15 u (by omega)
 unfold wide
 rw [List.length_append, List.length_replicate]
 omega
theorem numF_ok (dg w u : Nat) (hg : dg < 4) (hw : w < 10) (hu : u < 9007199254740992) : numF 60 (dg : Int) (fldN u) (w : Int) = some (strOfNums ((wide w u).flatMap (encD dg))) := by
 have hl := digs_len 20 u
 have hz : (fldN u).f1.size = (digsN 20 u).length := by
  show (⟨(decK 20 u).toArray⟩ : ByteArray).size = _
  rw [decK_digs 20 u (by omega)]
  simp [ByteArray.size]
 have hm : mx (wrap64 ((w : Int) - ((digsN 20 u).length : Int))) 0 = ((w - (digsN 20 u).length : Nat) : Int) := by
  have : wrap64 ((w : Int) - ((digsN 20 u).length : Int)) = (w : Int) - ((digsN 20 u).length : Int) := by unfold wrap64; omega
  rw [this]
  unfold mx
  split <;> omega
 have hr : strings_Repeat.f (⟨#[48]⟩ : ByteArray) ((w - (digsN 20 u).length : Nat) : Int) = some ⟨((List.replicate (w - (digsN 20 u).length) 0).map (fun d => UInt8.ofNat (48 + d))).toArray⟩ := by
  unfold strings_Repeat.f
  rw [if_pos ⟨by omega, by omega, by decide⟩, Int.toNat_natCast]
  show some (⟨(Lib.repeatL [48] _).toArray⟩ : ByteArray) = _
  rw [repeat_zero]
 unfold numF
 rw [hz, hm, hr, Option.bind_some]
 have hz2 : (⟨((List.replicate (w - (digsN 20 u).length) 0).map (fun d => UInt8.ofNat (48 + d))).toArray⟩ : ByteArray).size = w - (digsN 20 u).length := by simp [ByteArray.size]
 rw [hz2, if_pos (by omega), if_neg (by show ¬ (false = true); decide), if_neg (by show ¬ (false = true); decide)]
 have hb : (⟨((List.replicate (w - (digsN 20 u).length) 0).map (fun d => UInt8.ofNat (48 + d))).toArray⟩ : ByteArray) ++ (fldN u).f1 = ⟨((wide w u).map (fun d => UInt8.ofNat (48 + d))).toArray⟩ := by
  show (⟨_⟩ : ByteArray) ++ ⟨(decK 20 u).toArray⟩ = _
  rw [decK_digs 20 u (by omega)]
  unfold wide
  rw [List.map_append]
  apply ByteArray.ext
  simp
 have hd := wide_len w u hw hu
 rw [hb, bytes_digs _ (wide_lt w u hu), show (⟨#[]⟩ : ByteArray) = strOfNums [] from rfl, shown_ok dg hg _ [] (wide_lt w u hu) (by simp; omega), Option.bind_some, List.nil_append]
 have hf : ((wide w u).flatMap (encD dg)).length ≤ 3 * (wide w u).length := by
  clear hb hd hz hm hr hz2
  induction wide w u with
  | nil => simp
  | cons d ds ih =>
   have := enc_len dg d
   rw [List.flatMap_cons, List.length_append, List.length_cons]
   omega
 rw [nums_sizeD, if_pos (by omega), if_neg (by show ¬ (false = true); decide)]
 rw [nums_appendD, List.nil_append]
theorem fields9 : act_fields.f 9 = some 1 := by decide +kernel
theorem write_dur (dg w fi v u : Nat) (hg : dg < 4) (hw : w < 10) (hv : v < 9007199254740992) (hf : (fi = 0 ∧ u = v) ∨ (fi = 1 ∧ u = v / 3600) ∨ (fi = 2 ∧ u = v / 60 % 60) ∨ (fi = 3 ∧ u = v % 60)) (k : Nat) (hk : 60 ≤ k) :
  render_Write.f k ⟨#[]⟩ 0 (dg : Int) ([] : List (S89)) ([] : List (S110)) (([(⟨9, (([(⟨1, (⟨#[]⟩ : ByteArray), (fi : Int), (w : Int), 0⟩ : S55)] : List (S55)))⟩ : S37)] : List (S37))) 0 9 [(v : Int)] = some (strOfNums ((wide w u).flatMap (encD dg)), 0) := by
 have hu : u < 9007199254740992 := by omega
 refine at_rounds (g := fun k => render_Write.f k ⟨#[]⟩ 0 (dg : Int) [] [] [⟨9, [⟨1, ⟨#[]⟩, (fi : Int), (w : Int), 0⟩]⟩] 0 9 [(v : Int)]) (fun k => render_Write.mono _ _ _ _ _ _ _ _ _ k) hk ?_
 show writeF 60 (dg : Int) [] [⟨9, [⟨1, ⟨#[]⟩, (fi : Int), (w : Int), 0⟩]⟩] 0 9 [(v : Int)] = _
 have hr : act_Right.f 60 9 [(v : Int)] = some true := by
  unfold act_Right.f
  rw [fields9, Option.bind_some, if_neg (by show ¬ (((1 : Int) == 1) = false); decide), if_neg (by decide), if_neg (by decide), if_neg (by decide), if_pos rfl, if_pos (by show 0 < 1; decide), show rd [(v : Int)] 0 = (v : Int) from rfl, decide_eq_true (by omega), decide_eq_true (by omega)]
  rfl
 have hfs : fieldsF 60 9 [(v : Int)] = some [fldN v, fldN (v / 3600), fldN (v / 60 % 60), fldN (v % 60)] := by
  unfold fieldsF
  rw [if_neg (by decide), if_neg (by decide), if_pos rfl, durF_ok v hv]
 have hp : partF 60 (dg : Int) [] [fldN v, fldN (v / 3600), fldN (v / 60 % 60), fldN (v % 60)] ⟨1, ⟨#[]⟩, (fi : Int), (w : Int), 0⟩ = some (strOfNums ((wide w u).flatMap (encD dg)), true) := by
  unfold partF
  have hfi : (fi : Int) < 4 := by omega
  rw [if_neg (by show ¬ ((1 : Int) = 0); decide), if_neg (by show ¬ ((fi : Int) < 0 ∨ 4 ≤ (fi : Int)); omega), if_neg (by show ¬ ((1 : Int) = 2); decide)]
  have hx : rd_T118 [fldN v, fldN (v / 3600), fldN (v / 60 % 60), fldN (v % 60)] (fi : Int) = fldN u := by
   rcases hf with ⟨rfl, rfl⟩ | ⟨rfl, rfl⟩ | ⟨rfl, rfl⟩ | ⟨rfl, rfl⟩ <;> rfl
  show (numF 60 (dg : Int) (rd_T118 _ (fi : Int)) (w : Int)).bind _ = _
  rw [hx, numF_ok dg w u hg hw hu, Option.bind_some]
 have hl : ((wide w u).flatMap (encD dg)).length ≤ 48 := by
  have h1 := (wide_len w u hw hu).1
  have h2 : ((wide w u).flatMap (encD dg)).length ≤ 3 * (wide w u).length := by
   clear h1 hp hfs hr
   induction wide w u with
   | nil => simp
   | cons d ds ih =>
    have := enc_len dg d
    rw [List.flatMap_cons, List.length_append, List.length_cons]
    omega
  omega
 unfold writeF
 rw [if_neg (by show ¬ ((0 : Int) < 0 ∨ (1 : Int) ≤ 0); decide), if_neg (by show ¬ (((9 : Int) == 9) = false); decide), hr, Option.bind_some, if_neg (by decide), hfs, Option.bind_some]
 show partsF 60 (dg : Int) [] _ [⟨1, ⟨#[]⟩, (fi : Int), (w : Int), 0⟩] ⟨#[]⟩ = _
 rw [partsF, hp, Option.bind_some, if_neg (by show ¬ (true = false); decide), show (⟨#[]⟩ : ByteArray) = strOfNums [] from rfl]
 show (if (strOfNums []).size + (strOfNums ((wide w u).flatMap (encD dg))).size ≤ _ then _ else _) = _
 rw [nums_sizeD, nums_sizeD, if_pos (by rw [List.length_nil]; omega), partsF, nums_appendD, nums_sizeD, List.nil_append, if_neg (by omega)]
end Go.Proofs.YtjijikgandkphaaGreatDoor.Plain

namespace Go.Proofs.YtjijikgandkphaaGreatDoor.Pure
open Go.RowKit Go.Proofs.YtjijikgandkphaaGreatDoor.G Go.Proofs.YtjijikgandkphaaGreatDoorW.PrintWords Go.Proofs.YtjijikgandkphaaGreatDoorW.PrintLast Go.Proofs.YtjijikgandkphaaGreatDoor.Plain
set_option linter.unusedVariables false
set_option linter.unusedSimpArgs false
theorem one_digit (d : Nat) (hd : d < 10) : interlocutorref3_One.f (48 + (d : Int)) = some (strOfNums [48 + (d : Int)]) := by
 unfold interlocutorref3_One.f
 rw [if_pos (by omega), show (48 + (d : Int)) % 256 = 48 + (d : Int) by omega]
theorem text_loop (ds : List Nat) (h : ∀ d ∈ ds, d < 10) (hl : ds.length ≤ 1000) : ∀ (r i k : Nat) (out : List Int), i + r = ds.length → out.length = i → r + 1 ≤ k →
  interlocutorref3_Text.l0 k (ds.map (fun d : Nat => 48 + (d : Int))) (strOfNums out) (i : Int) = some (strOfNums (out ++ (ds.drop i).map (fun d : Nat => 48 + (d : Int))))
 | r, i, k, out, hi, ho, hk => by
  obtain ⟨k, rfl⟩ : ∃ q, k = q + 1 := ⟨k - 1, by omega⟩
  rw [interlocutorref3_Text.l0, List.length_map]
  cases r with
  | zero =>
   rw [if_neg (by omega), List.drop_eq_nil_of_le (by omega)]
   simp
  | succ r =>
   have hi2 : i < ds.length := by omega
   have hrd : rd (ds.map (fun d : Nat => 48 + (d : Int))) (i : Int) = 48 + (ds[i] : Int) := by
    rw [rd, Int.toNat_natCast, List.getD_eq_getElem?_getD, List.getElem?_map, List.getElem?_eq_getElem hi2]
    rfl
   rw [if_pos (by omega), if_pos (by omega), hrd, one_digit _ (h _ (List.getElem_mem hi2)), Option.bind_some, nums_sizeD, nums_sizeD, if_pos (by simp; omega), nums_appendD]
   have hw : wrap64 ((i : Int) + 1) = ((i + 1 : Nat) : Int) := by unfold wrap64; omega
   rw [hw, text_loop ds h hl r (i + 1) k _ (by omega) (by rw [List.length_append, ho]; rfl) (by omega), List.drop_eq_getElem_cons hi2, List.map_cons, List.append_assoc]
   rfl
theorem runes_digs (dg : Nat) (hg : dg < 4) (ds : List Nat) (h : ∀ d ∈ ds, d < 10) : (sgnOf (strOfNums (ds.flatMap (encD dg)))).map (fun p => runeP p.2) = ds.map (fun d : Nat => 48 + (d : Int)) := by
 have hb : bytesOf (strOfNums (ds.flatMap (encD dg))) = ds.flatMap (encD dg) := by
  unfold bytesOf strOfNums
  rw [show (⟨((ds.flatMap (encD dg)).map fun n => UInt8.ofNat n.toNat).toArray⟩ : ByteArray).data.toList = (ds.flatMap (encD dg)).map fun n => UInt8.ofNat n.toNat from rfl, List.map_map]
  conv => rhs; rw [← List.map_id (ds.flatMap (encD dg))]
  refine List.map_congr_left fun x hx => ?_
  obtain ⟨d, hd, hx⟩ := List.mem_flatMap.1 hx
  have h10 := h d hd
  have hr : 0 ≤ x ∧ x ≤ 255 := by
   unfold encD at hx
   split at hx
   all_goals simp only [List.mem_cons, List.not_mem_nil, or_false] at hx
   all_goals omega
  show ((UInt8.ofNat x.toNat).toNat : Int) = x
  rw [UInt8.toNat_ofNat']
  omega
 have e := rnD_digits dg hg ds h
 unfold rnD at e
 unfold sgnOf
 rw [hb, nums_sizeD]
 exact e
theorem text_ok (dg : Nat) (hg : dg < 4) (ds : List Nat) (h : ∀ d ∈ ds, d < 10) (hl : ds.length ≤ 16) (k : Nat) (hk : 100 ≤ k) : interlocutorref3_Text.f k (strOfNums (ds.flatMap (encD dg))) = some (strOfNums (ds.map (fun d : Nat => 48 + (d : Int)))) := by
 have hf : (ds.flatMap (encD dg)).length ≤ 3 * ds.length := by
  clear hl h
  induction ds with
  | nil => simp
  | cons d ds ih =>
   have := enc_len dg d
   rw [List.flatMap_cons, List.length_append, List.length_cons]
   omega
 unfold interlocutorref3_Text.f
 rw [ref_fold _ (by rw [nums_sizeD]; omega) k (by rw [nums_sizeD]; omega), Option.bind_some]
 show interlocutorref3_Text.l0 k ((sgnOf _).map (fun p => runeP p.2)) ⟨#[]⟩ 0 = _
 rw [runes_digs dg hg ds h, show (⟨#[]⟩ : ByteArray) = strOfNums [] from rfl]
 have := text_loop ds h (by omega) ds.length 0 k [] (by omega) rfl (by omega)
 rw [List.nil_append, List.drop_zero] at this
 exact this
theorem bt_digs (ds : List Nat) (h : ∀ d ∈ ds, d < 10) (i : Nat) (hi : i < ds.length) : bt (strOfNums (ds.map (fun d : Nat => 48 + (d : Int)))) (i : Int) = 48 + (ds[i] : Int) := by
 have h10 := h _ (List.getElem_mem hi)
 have hs : i < (strOfNums (ds.map (fun d : Nat => 48 + (d : Int)))).size := by rw [nums_sizeD, List.length_map]; exact hi
 rw [← rd_bytesOf, rd, Int.toNat_natCast, List.getD_eq_getElem?_getD]
 have hb : bytesOf (strOfNums (ds.map (fun d : Nat => 48 + (d : Int)))) = ds.map (fun d : Nat => 48 + (d : Int)) := by
  unfold bytesOf strOfNums
  rw [show (⟨((ds.map (fun d : Nat => 48 + (d : Int))).map fun n => UInt8.ofNat n.toNat).toArray⟩ : ByteArray).data.toList = (ds.map (fun d : Nat => 48 + (d : Int))).map fun n => UInt8.ofNat n.toNat from rfl, List.map_map, List.map_map]
  refine List.map_congr_left fun d hd => ?_
  have := h d hd
  show ((UInt8.ofNat (48 + (d : Int)).toNat).toNat : Int) = 48 + (d : Int)
  rw [UInt8.toNat_ofNat']
  omega
 rw [hb, List.getElem?_map, List.getElem?_eq_getElem hi]
 rfl
theorem valD_snoc (v : Nat) (ds : List Nat) (d : Nat) : valD v (ds ++ [d]) = 10 * valD v ds + d := by
 unfold valD
 rw [List.foldl_append]
 rfl
theorem valD_zeros : ∀ (n : Nat) (ds : List Nat), valD 0 (List.replicate n 0 ++ ds) = valD 0 ds
 | 0, ds => rfl
 | n + 1, ds => by
  rw [List.replicate_succ, List.cons_append]
  show valD (10 * 0 + 0) _ = _
  exact valD_zeros n ds
theorem valD_take (ds : List Nat) (h : ∀ d ∈ ds, d < 10) : ∀ i, i ≤ ds.length → valD 0 (ds.take i) < 10 ^ i
 | 0, _ => by simp [valD]
 | i + 1, hi => by
  have hi2 : i < ds.length := by omega
  have h10 := h _ (List.getElem_mem hi2)
  have := valD_take ds h i (by omega)
  rw [← List.take_append_getElem hi2, valD_snoc, Nat.pow_succ]
  omega
theorem last_ok (w v : Nat) (hw : w < 10) (hv : v < 9007199254740992) : ∀ (r i k : Nat), i + r = (wide w v).length → r + 1 ≤ k →
  interlocutorlaw11_RenderWidths.l0 k (v : Int) (w : Int) 0 (strOfNums ((wide w v).map (fun d : Nat => 48 + (d : Int)))) (valD 0 ((wide w v).take i) : Int) (i : Int) = some true
 | r, i, k, hi, hk => by
  obtain ⟨k, rfl⟩ : ∃ q, k = q + 1 := ⟨k - 1, by omega⟩
  have hlt := wide_lt w v hv
  have hl := wide_len w v hw hv
  have hz : ((strOfNums ((wide w v).map (fun d : Nat => 48 + (d : Int)))).size : Int) = ((wide w v).length : Int) := by rw [nums_sizeD, List.length_map]
  rw [interlocutorlaw11_RenderWidths.l0, hz]
  cases r with
  | zero =>
   rw [if_neg (by omega), if_pos rfl, List.take_of_length_le (by omega)]
   have hval : valD 0 (wide w v) = v := by unfold wide; rw [valD_zeros, valD_digs]
   rw [hval, if_pos rfl, if_pos (by omega)]
   by_cases c : ((wide w v).length : Int) ≤ mx (w : Int) 1
   ·rw [if_pos c]
   ·have hm : (w : Int) ≤ mx (w : Int) 1 ∧ 1 ≤ mx (w : Int) 1 := by unfold mx; split <;> omega
    rw [if_neg c, if_pos (by omega)]
    have hgt : w < (wide w v).length ∧ 1 < (wide w v).length := by omega
    have hL : (wide w v).length = (w - (digsN 20 v).length) + (digsN 20 v).length := by unfold wide; rw [List.length_append, List.length_replicate]
    have hW : wide w v = digsN 20 v := by unfold wide; rw [show w - (digsN 20 v).length = 0 by omega]; rfl
    have h10 : 10 ≤ v := by
     refine Nat.le_of_not_lt fun hlt10 => ?_
     have := digs_len_le 20 0 v (by omega)
     rw [hW] at hgt
     omega
    obtain ⟨d, ds, hd, hd0⟩ := digs_head 20 v h10
    have h0 : bt (strOfNums ((wide w v).map (fun d : Nat => 48 + (d : Int)))) 0 = 48 + (d : Int) := by
     have := bt_digs (wide w v) hlt 0 (by omega)
     rw [show (((0 : Nat) : Int)) = 0 from rfl] at this
     rw [this]
     congr 2
     have e : wide w v = d :: ds := by rw [hW, hd]
     simp [e]
    rw [h0]
    have : (48 + (d : Int) != 48) = true := by
     rw [bne_iff_ne]
     omega
    rw [this]
  | succ r =>
   have hi2 : i < (wide w v).length := by omega
   have h10 := hlt _ (List.getElem_mem hi2)
   have hv1 := valD_take (wide w v) hlt i (by omega)
   have hp : 10 ^ i ≤ 10 ^ 16 := Nat.pow_le_pow_right (by decide) (by omega)
   rw [if_pos (by omega), if_pos (by omega), bt_digs (wide w v) hlt i hi2, if_neg (by omega), if_neg (by omega)]
   have e1 : wrap64 (wrap64 (10 * (valD 0 ((wide w v).take i) : Int)) + ((48 + ((wide w v)[i] : Int) - 48) % 256)) = (valD 0 ((wide w v).take (i + 1)) : Int) := by
    rw [← List.take_append_getElem hi2, valD_snoc]
    have e0 : wrap64 (10 * (valD 0 ((wide w v).take i) : Int)) = 10 * (valD 0 ((wide w v).take i) : Int) := by unfold wrap64; omega
    rw [e0]
    unfold wrap64
    omega
   have e2 : wrap64 ((i : Int) + 1) = ((i + 1 : Nat) : Int) := by unfold wrap64; omega
   rw [e1, e2]
   exact last_ok w v hw hv r (i + 1) k (by omega) (by omega)
theorem RenderWidths : interlocutorlaw11_RenderWidths.Pure := by
 intro a0 a1 a2 _ _ _
 refine ⟨200, ?_⟩
 unfold interlocutorlaw11_RenderWidths.f
 rw [known_at 200 (by decide), Option.bind_some, if_pos rfl, within_ok a0 1099511627776 (by decide) (by decide), Option.bind_some, within_ok a1 10 (by decide) (by decide), Option.bind_some, within_ok a2 4 (by decide) (by decide), Option.bind_some]
 obtain ⟨v, hv⟩ : ∃ v : Nat, a0 % 1099511627776 = (v : Int) := ⟨(a0 % 1099511627776).toNat, by have := Int.emod_nonneg a0 (show (1099511627776 : Int) ≠ 0 by decide); omega⟩
 obtain ⟨w, hw⟩ : ∃ w : Nat, a1 % 10 = (w : Int) := ⟨(a1 % 10).toNat, by have := Int.emod_nonneg a1 (show (10 : Int) ≠ 0 by decide); omega⟩
 obtain ⟨g, hg⟩ : ∃ g : Nat, a2 % 4 = (g : Int) := ⟨(a2 % 4).toNat, by have := Int.emod_nonneg a2 (show (4 : Int) ≠ 0 by decide); omega⟩
 have hv2 : v < 9007199254740992 := by have := Int.emod_lt_of_pos a0 (show (0 : Int) < 1099511627776 by decide); omega
 have hw2 : w < 10 := by have := Int.emod_lt_of_pos a1 (show (0 : Int) < 10 by decide); omega
 have hg2 : g < 4 := by have := Int.emod_lt_of_pos a2 (show (0 : Int) < 4 by decide); omega
 rw [hv, hw, hg]
 show ((render_Write.f 200 ⟨#[]⟩ 0 (g : Int) [] [] [⟨9, [⟨1, ⟨#[]⟩, ((0 : Nat) : Int), (w : Int), 0⟩]⟩] 0 9 [(v : Int)]).bind _) = _
 rw [write_dur g w 0 v v hg2 hw2 hv2 (Or.inl ⟨rfl, rfl⟩) 200 (by decide), Option.bind_some]
 have hl := wide_len w v hw2 hv2
 show (interlocutorref3_Text.f 200 (strOfNums ((wide w v).flatMap (encD g)))).bind _ = _
 rw [text_ok g hg2 _ (wide_lt w v hv2) hl.1 200 (by decide), Option.bind_some]
 have := last_ok w v hw2 hv2 (wide w v).length 0 200 (by omega) (by omega)
 rw [List.take_zero] at this
 exact this
end Go.Proofs.YtjijikgandkphaaGreatDoor.Pure
