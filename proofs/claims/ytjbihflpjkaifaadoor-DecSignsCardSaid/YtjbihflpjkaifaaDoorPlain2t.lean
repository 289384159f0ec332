/- Plain facts: a decimal's text as a list of bytes: the program's, and the document's. -/
import Derived.Test.YtjbihflpjkaifaaDoorPlain2a
import Derived.Test.YtjbihflpjkaifaaDoorGx4
import Derived.Test.YtjbihflpjkaifaaDoorGx10
namespace Go.Proofs.YtjbihflpjkaifaaDoor.Plain
open Go.RowKit Go.Proofs.YtjbihflpjkaifaaDoor.G Go.Proofs.YtjbihflpjkaifaaDoorW.PrintWords Go.Proofs.YtjbihflpjkaifaaDoorW.PrintLast Go.Proofs.YtjbihflpjkaifaaDoorW.PrintMore
set_option linter.unusedVariables false
set_option linter.unusedSimpArgs false
/-- So many of a number's last digits. -/
def dgs : Nat → Nat → List UInt8
  | 0, _ => []
  | w + 1, n => dgs w (n / 10) ++ [UInt8.ofNat (48 + n % 10)]
theorem dgs_length : ∀ (w n : Nat), (dgs w n).length = w
  | 0, _ => rfl
  | w + 1, n => by rw [dgs, List.length_append, dgs_length w]; rfl
theorem dec_dgs (n : Nat) : Lib.decDigits n = dgs (Lib.nDigits n) n := by
  induction n using Nat.strongRecOn with
  | _ n ih =>
    by_cases h : n < 10
    · rw [Lib.decDigits_one h, Lib.nDigits_small h, dgs, dgs, Nat.mod_eq_of_lt h]
      rfl
    · rw [Lib.decDigits, dif_neg h, Lib.nDigits_big h, dgs, ih (n / 10) (by omega)]
theorem dgs_zero : ∀ c : Nat, dgs c 0 = List.replicate c 48
  | 0 => rfl
  | c + 1 => by
    rw [dgs, dgs_zero c, List.replicate_succ']
    rfl
theorem dgs_pad : ∀ (w c n : Nat), n < 10 ^ w → List.replicate c 48 ++ dgs w n = dgs (c + w) n
  | 0, c, n, h => by
    have h0 : n = 0 := by simpa using h
    subst h0
    rw [dgs, List.append_nil, Nat.add_zero, dgs_zero]
  | w + 1, c, n, h => by
    rw [dgs, ← List.append_assoc, dgs_pad w c (n / 10) (by rw [Nat.pow_succ] at h; omega)]
    rfl
theorem dgs_split : ∀ (b a n : Nat), dgs (a + b) n = dgs a (n / 10 ^ b) ++ dgs b n
  | 0, a, n => by simp [dgs]
  | b + 1, a, n => by
    rw [show a + (b + 1) = (a + b) + 1 from rfl, dgs, dgs_split b a (n / 10), Nat.div_div_eq_div_mul, Nat.pow_succ, Nat.mul_comm 10, List.append_assoc, dgs]
theorem dgs_mod : ∀ (b n : Nat), dgs b (n % 10 ^ b) = dgs b n
  | 0, n => rfl
  | b + 1, n => by
    rw [dgs, dgs]
    have e1 : n % 10 ^ (b + 1) / 10 = n / 10 % 10 ^ b := by rw [Nat.pow_succ, Nat.mul_comm, Nat.mod_mul_right_div_self]
    have e2 : n % 10 ^ (b + 1) % 10 = n % 10 := Nat.mod_mod_of_dvd _ ⟨10 ^ b, by rw [Nat.pow_succ, Nat.mul_comm]⟩
    rw [e1, e2, dgs_mod b]
theorem nDigits_div : ∀ (s u : Nat), Lib.nDigits (u / 10 ^ s) = max (Lib.nDigits u) (s + 1) - s
  | 0, u => by
    have := Lib.nDigits_pos u
    simp
    omega
  | s + 1, u => by
    have h1 : Lib.nDigits (u / 10) = max (Lib.nDigits u) 2 - 1 := by
      by_cases h : u < 10
      · rw [Lib.nDigits_small h, show u / 10 = 0 by omega, Lib.nDigits_small (by decide)]
        rfl
      · rw [Lib.nDigits_big h]
        have := Lib.nDigits_pos (u / 10)
        omega
    rw [Nat.pow_succ, Nat.mul_comm, ← Nat.div_div_eq_div_mul, nDigits_div s (u / 10), h1]
    omega
/-- A decimal's text. -/
def txt (B : List UInt8) (u s : Nat) : List UInt8 := if s = 0 then B ++ dgs (Lib.nDigits u) u else B ++ dgs (Lib.nDigits (u / 10 ^ s)) (u / 10 ^ s) ++ [46] ++ dgs s u
theorem ext_ {a b : ByteArray} (h : a.data.toList = b.data.toList) : a = b := by
  cases a; cases b
  simp only [ByteArray.mk.injEq]
  exact Array.toList_inj.mp h
theorem data_append (a b : ByteArray) : (a ++ b).data.toList = a.data.toList ++ b.data.toList := by
  rw [ByteArray.data_append, Array.toList_append]
theorem data_extract (a : ByteArray) (i j : Nat) : (a.extract i j).data.toList = (a.data.toList.drop i).take (j - i) := by
  rw [ByteArray.data_extract, Array.toList_extract]
theorem repeat_one : ∀ c : Nat, Lib.repeatL [48] c = List.replicate c 48
  | 0 => rfl
  | c + 1 => by rw [Lib.repeatL, repeat_one c]; rfl
theorem textB_txt (B : List UInt8) (u s : Nat) : textB ⟨B.toArray⟩ ⟨(Lib.decDigits u).toArray⟩ s = ⟨(txt B u s).toArray⟩ := by
  unfold textB txt
  rw [dec_dgs]
  by_cases h : s = 0
  · rw [if_pos h, if_pos h]
    refine ext_ ?_
    rw [data_append]
  · rw [if_neg h, if_neg h]
    have hsz : (⟨(dgs (Lib.nDigits u) u).toArray⟩ : ByteArray).size = Lib.nDigits u := by
      show (dgs (Lib.nDigits u) u).toArray.size = _
      rw [List.size_toArray, dgs_length]
    have hX : (⟨(Lib.repeatL [48] (s + 1 - Lib.nDigits u)).toArray⟩ : ByteArray) ++ ⟨(dgs (Lib.nDigits u) u).toArray⟩ = ⟨(dgs (Lib.nDigits (u / 10 ^ s)) (u / 10 ^ s) ++ dgs s u).toArray⟩ := by
      refine ext_ ?_
      rw [data_append]
      show Lib.repeatL [48] _ ++ dgs _ _ = _
      rw [repeat_one, dgs_pad _ _ _ (Lib.lt_pow_nDigits u), ← dgs_split, nDigits_div]
      congr 1
      omega
    rw [hsz]
    dsimp only
    rw [hX]
    have hl : (⟨(dgs (Lib.nDigits (u / 10 ^ s)) (u / 10 ^ s) ++ dgs s u).toArray⟩ : ByteArray).size = Lib.nDigits (u / 10 ^ s) + s := by
      show (dgs (Lib.nDigits (u / 10 ^ s)) (u / 10 ^ s) ++ dgs s u).toArray.size = _
      rw [List.size_toArray, List.length_append, dgs_length, dgs_length]
    rw [hl, Nat.add_sub_cancel]
    refine ext_ ?_
    rw [data_append, data_append, data_append, data_extract, data_extract]
    show B ++ List.take _ (List.drop 0 (dgs _ _ ++ dgs _ _)) ++ [46] ++ List.take _ (List.drop _ (dgs _ _ ++ dgs _ _)) = B ++ dgs _ _ ++ [46] ++ dgs _ _
    have e1 := dgs_length (Lib.nDigits (u / 10 ^ s)) (u / 10 ^ s)
    have e2 := dgs_length s u
    rw [List.drop_zero, Nat.sub_zero, List.take_left' e1, List.drop_left' e1, List.take_of_length_le (by omega)]
/-- The sign's bytes. -/
def sgn (m : Int) : List UInt8 := if m < 0 then [45] else []
theorem text_ok (m : Int) (s : Nat) (hs : s ≤ 18) (h0 : -1000000000000000000 < m) (h1 : m < 1000000000000000000) : dec_Text.f m (s : Int) = some ⟨(txt (sgn m) m.natAbs s).toArray⟩ := by
  unfold dec_Text.f sgn
  rw [if_pos (by omega), Int.toNat_natCast]
  by_cases h : m < 0
  · rw [if_pos h, if_pos h, Lib.itoa, if_pos h, ← textB_txt]
    congr 2
    refine ext_ ?_
    rw [data_extract]
    show List.take ((45 :: Lib.decDigits m.natAbs).toArray.size - 1) (List.drop 1 (45 :: Lib.decDigits m.natAbs)) = Lib.decDigits m.natAbs
    rw [List.size_toArray]
    simp
  · rw [if_neg h, if_neg h, Lib.itoa, if_neg h, ← textB_txt, show m.toNat = m.natAbs by omega]
theorem digit_one (n : Nat) : strOfNums [wrap64 (48 + Int.tmod (n : Int) 10) % 256] = ⟨[UInt8.ofNat (48 + n % 10)].toArray⟩ := by
  have e : Int.tmod (n : Int) 10 = ((n % 10 : Nat) : Int) := by
    rw [Int.tmod_eq_emod_of_nonneg (by omega)]
    omega
  rw [e, wrapIn _ (by omega) (by omega)]
  unfold strOfNums
  congr 2
  simp only [List.map_cons, List.map_nil, List.cons.injEq, and_true]
  congr 1
  omega
theorem toList_nil {x : ByteArray} : x.toList = [] ↔ x.size = 0 := by
  have h : x.toList = x.data.toList := ByteArray.toList_eq x
  rw [h]
  cases x with
  | mk d =>
    show d.toList = [] ↔ d.size = 0
    rw [← Array.length_toList, List.length_eq_zero_iff]
/-- How many rounds the document's digits still want. -/
theorem rdigits : ∀ (e k n w : Nat) (x : ByteArray), (e = max (if n = 0 then 0 else Lib.nDigits n) (max (if x.size = 0 then 1 else 0) (w - x.size))) → e < k → n < 9223372036854775807 → x.size + e < 1000 → w < 1000 →
    interlocutorref2_Digits.l0 k (n : Int) (w : Int) x = some (⟨(dgs e n).toArray⟩ ++ x)
  | 0, k, n, w, x, he, hk, hn, hx, hw => by
    obtain ⟨k, rfl⟩ : ∃ j, k = j + 1 := ⟨k - 1, by omega⟩
    have hp := Lib.nDigits_pos n
    have h0 : n = 0 := by
      rcases Nat.eq_zero_or_pos n with h | h
      · exact h
      · rw [if_neg (by omega)] at he
        omega
    have h1 : x.size ≠ 0 := by
      intro h
      rw [if_pos h] at he
      omega
    have h2 : w ≤ x.size := by omega
    rw [interlocutorref2_Digits.l0, if_neg (by omega), if_neg (by rw [toList_nil]; exact h1), if_neg (by omega)]
    congr 1
  | e + 1, k, n, w, x, he, hk, hn, hx, hw => by
    obtain ⟨k, rfl⟩ : ∃ j, k = j + 1 := ⟨k - 1, by omega⟩
    have hd : wrap64 (Int.tdiv (n : Int) 10) = ((n / 10 : Nat) : Int) := by
      rw [Int.tdiv_eq_ediv_of_nonneg (by omega), wrapIn _ (by omega) (by omega)]
      omega
    have hsz : (⟨[UInt8.ofNat (48 + n % 10)].toArray⟩ : ByteArray).size = 1 := rfl
    have ih := rdigits e k (n / 10) w (⟨[UInt8.ofNat (48 + n % 10)].toArray⟩ ++ x) (by
      rw [ByteArray.size_append, hsz, if_neg (show ¬ 1 + x.size = 0 by omega)]
      by_cases h10 : n < 10
      · rw [if_pos (show n / 10 = 0 by omega)]
        rcases Nat.eq_zero_or_pos n with h | h
        · rw [if_pos h] at he
          by_cases hxs : x.size = 0
          · rw [if_pos hxs] at he
            omega
          · rw [if_neg hxs] at he
            omega
        · rw [if_neg (by omega), Lib.nDigits_small h10] at he
          by_cases hxs : x.size = 0
          · rw [if_pos hxs] at he
            omega
          · rw [if_neg hxs] at he
            omega
      · rw [if_neg (show ¬ n / 10 = 0 by omega)]
        rw [if_neg (by omega), Lib.nDigits_big h10] at he
        have := Lib.nDigits_pos (n / 10)
        by_cases hxs : x.size = 0
        · rw [if_pos hxs] at he
          omega
        · rw [if_neg hxs] at he
          omega) (by omega) (by omega) (by rw [ByteArray.size_append, hsz]; omega) hw
    have hout : (some (⟨(dgs e (n / 10)).toArray⟩ ++ (⟨[UInt8.ofNat (48 + n % 10)].toArray⟩ ++ x)) : Option ByteArray) = some (⟨(dgs (e + 1) n).toArray⟩ ++ x) := by
      congr 1
      refine ext_ ?_
      rw [data_append, data_append, data_append, dgs]
      show dgs e (n / 10) ++ ([_] ++ _) = (dgs e (n / 10) ++ [_]) ++ _
      rw [List.append_assoc]
    rw [hout] at ih
    rw [interlocutorref2_Digits.l0, Option.bind_some, digit_one, hd, hsz, if_pos (show 1 + x.size ≤ 9223372036854775807 by omega), ih]
    by_cases c1 : (n : Int) > 0
    · rw [if_pos c1]
    · rw [if_neg c1]
      by_cases c2 : x.toList = []
      · rw [if_pos c2]
      · rw [if_neg c2]
        rw [if_pos]
        have h0 : n = 0 := by omega
        rw [toList_nil] at c2
        rw [if_pos h0, if_neg c2] at he
        omega
theorem rdigits_ok (k n w : Nat) (hn : n < 1000000000000000000) (hw : w ≤ 18) (hk : 100 ≤ k) (hnw : n < 10 ^ w ∨ w = 1) : interlocutorref2_Digits.f k (n : Int) (w : Int) = some ⟨(dgs (if w = 1 then Lib.nDigits n else max w 1) n).toArray⟩ := by
  have h1 : ∀ (k u : Nat), u < 10 ^ (k + 1) → Lib.nDigits u ≤ k + 1 := nDigits_le
  have hp := Lib.nDigits_pos n
  have h18 := h1 17 n (by have : (10 : Nat) ^ (17 + 1) = 1000000000000000000 := by decide
                          omega)
  have he : (if w = 1 then Lib.nDigits n else max w 1) = max (if n = 0 then 0 else Lib.nDigits n) (max (if (⟨#[]⟩ : ByteArray).size = 0 then 1 else 0) (w - (⟨#[]⟩ : ByteArray).size)) := by
    rw [show (⟨#[]⟩ : ByteArray).size = 0 from rfl, if_pos (rfl : (0 : Nat) = 0)]
    by_cases hw1 : w = 1
    · rw [if_pos hw1]
      by_cases h0 : n = 0
      · subst h0
        rw [if_pos rfl, Lib.nDigits_small (by decide)]
        omega
      · rw [if_neg h0]
        omega
    · rw [if_neg hw1]
      rcases hnw with h | h
      · by_cases h0 : n = 0
        · rw [if_pos h0]
          omega
        · rw [if_neg h0]
          have hw0 : w ≠ 0 := by
            rintro rfl
            simp at h
            omega
          have := h1 (w - 1) n (by rw [show w - 1 + 1 = w by omega]; exact h)
          omega
      · exact absurd h hw1
  unfold interlocutorref2_Digits.f
  rw [rdigits _ k n w ⟨#[]⟩ he (by split <;> omega) (by omega) (by rw [show (⟨#[]⟩ : ByteArray).size = 0 from rfl]; split <;> omega) (by omega)]
  congr 1
  refine ext_ ?_
  rw [data_append]
  show dgs _ _ ++ [] = _
  rw [List.append_nil]
end Go.Proofs.YtjbihflpjkaifaaDoor.Plain
