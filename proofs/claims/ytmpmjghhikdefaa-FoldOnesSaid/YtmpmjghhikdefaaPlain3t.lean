/- Plain facts on encoded signs; the reference's One and Text are the program's; the law's own Signs answers. -/
import Derived.Test.YtmpmjghhikdefaaPlain3s
import Derived.Test.YtmpmjghhikdefaaGx13
import Derived.Test.YtmpmjghhikdefaaGx12
import Derived.Test.YtmpmjghhikdefaaGx7
namespace Go.Proofs.Ytmpmjghhikdefaa.Plain
open Go.RowKit Go.Proofs.Ytmpmjghhikdefaa.G Go.Proofs.YtmpmjghhikdefaaW.PrintWords Go.Proofs.YtmpmjghhikdefaaW.PrintLast Go.Proofs.YtmpmjghhikdefaaW.PrintMore
set_option linter.unusedVariables false
set_option linter.unusedSimpArgs false
theorem bytes_of_nums (l : List Int) (h : ∀ x ∈ l, 0 ≤ x ∧ x ≤ 255) : bytesOf (strOfNums l) = l := by
  unfold bytesOf strOfNums
  simp only [List.toList_toArray, List.map_map]
  rw [List.map_congr_left (g := id), List.map_id]
  intro x hx
  have := h x hx
  simp only [Function.comp, id, UInt8.toNat_ofNat']
  omega
theorem nums_size (l : List Int) : (strOfNums l).size = l.length := by
  unfold strOfNums
  show (List.toArray _).size = _
  simp
theorem bytes_append (a b : ByteArray) : bytesOf (a ++ b) = bytesOf a ++ bytesOf b := by
  unfold bytesOf
  rw [← List.map_append]
  congr 1
theorem enc_byte (r : Int) : ∀ x ∈ Lib.encodeRuneZ r, 0 ≤ x ∧ x ≤ 255 := fun x hx => by have := Lib.encodeRuneZ_byte r x hx; omega
theorem encs_byte (l : List Int) : ∀ x ∈ l.flatMap Lib.encodeRuneZ, 0 ≤ x ∧ x ≤ 255 := by
  intro x hx
  obtain ⟨r, _, hr⟩ := List.mem_flatMap.1 hx
  exact enc_byte r x hr
theorem ctn_enc (l : List Int) (k : Nat) (b : Int) (h : l[k]? = some b) (hb : 128 ≤ b ∧ b ≤ 191) : ctn l k = true ∧ l.getD k 0 = b := by
  refine ⟨?_, ?_⟩
  · unfold ctn
    rw [h]
    simp only [beq_iff_eq]
    omega
  · rw [List.getD_eq_getElem?_getD, h]
    rfl
theorem dec_enc (r : Int) (hr : Sign r) (t : List Int) : decL (Lib.encodeRuneZ r ++ t) = (r, (Lib.encodeRuneZ r).length) := by
  obtain ⟨h0, h1, h2⟩ := hr
  by_cases c1 : r ≤ 127
  · rw [Lib.encodeRuneZ_one h0 c1]
    unfold decL
    simp only [List.singleton_append, List.getD_cons_zero, List.length_singleton]
    rw [if_pos (by omega)]
  by_cases c2 : r ≤ 2047
  · rw [Lib.encodeRuneZ_two (by omega) c2]
    have g1 := ctn_enc ([192 + r / 64, 128 + r % 64] ++ t) 1 (128 + r % 64) rfl (by omega)
    unfold decL
    rw [g1.1, g1.2]
    simp only [List.cons_append, List.getD_cons_zero, List.length_cons, List.length_nil]
    rw [if_neg (by omega), if_pos ⟨by omega, trivial⟩, if_pos (by omega)]
    congr 1
    omega
  by_cases c3 : r ≤ 65535
  · rw [Lib.encodeRuneZ_three (by omega)]
    have g1 := ctn_enc ([224 + r / 4096, 128 + r / 64 % 64, 128 + r % 64] ++ t) 1 (128 + r / 64 % 64) rfl (by omega)
    have g2 := ctn_enc ([224 + r / 4096, 128 + r / 64 % 64, 128 + r % 64] ++ t) 2 (128 + r % 64) rfl (by omega)
    unfold decL
    rw [g1.1, g1.2, g2.1, g2.2]
    simp only [List.cons_append, List.getD_cons_zero, List.length_cons, List.length_nil]
    rw [if_neg (by omega), if_neg (by omega), if_pos ⟨by omega, trivial, trivial⟩, if_pos (by omega)]
    congr 1
    omega
  · rw [Lib.encodeRuneZ_four (by omega) h1]
    have g1 := ctn_enc ([240 + r / 262144, 128 + r / 4096 % 64, 128 + r / 64 % 64, 128 + r % 64] ++ t) 1 (128 + r / 4096 % 64) rfl (by omega)
    have g2 := ctn_enc ([240 + r / 262144, 128 + r / 4096 % 64, 128 + r / 64 % 64, 128 + r % 64] ++ t) 2 (128 + r / 64 % 64) rfl (by omega)
    have g3 := ctn_enc ([240 + r / 262144, 128 + r / 4096 % 64, 128 + r / 64 % 64, 128 + r % 64] ++ t) 3 (128 + r % 64) rfl (by omega)
    unfold decL
    rw [g1.1, g1.2, g2.1, g2.2, g3.1, g3.2]
    simp only [List.cons_append, List.getD_cons_zero, List.length_cons, List.length_nil]
    rw [if_neg (by omega), if_neg (by omega), if_neg (by omega), if_pos ⟨by omega, trivial, trivial, trivial⟩, if_pos (by omega)]
    congr 1
    omega
/-- Where signs that are written one behind the other begin. -/
def plc : List Int → Int → List (Int × Int)
  | [], _ => []
  | r :: rs, p => (p, r) :: plc rs (p + ((Lib.encodeRuneZ r).length : Int))
theorem plc_snd : ∀ (l : List Int) (p : Int), (plc l p).map (fun q => q.2) = l
  | [], _ => rfl
  | r :: rs, p => by simp only [plc, List.map_cons]; rw [plc_snd rs]
theorem plc_append : ∀ (l m : List Int) (p : Int), plc (l ++ m) p = plc l p ++ plc m (p + ((l.flatMap Lib.encodeRuneZ).length : Int))
  | [], m, p => by simp [plc]
  | r :: rs, m, p => by
    simp only [List.cons_append, plc, List.flatMap_cons, List.length_append]
    rw [plc_append rs m]
    simp only [Int.natCast_add, Int.add_assoc]
theorem sgn_enc : ∀ (l : List Int) (f : Nat) (p : Int) (t : List Int), (∀ r ∈ l, Sign r) → l.length ≤ f → sgn f (l.flatMap Lib.encodeRuneZ ++ t) p = plc l p ++ sgn (f - l.length) t (p + ((l.flatMap Lib.encodeRuneZ).length : Int))
  | [], f, p, t, _, _ => by simp [plc]
  | r :: rs, f, p, t, h, hf => by
    obtain ⟨f, rfl⟩ : ∃ m, f = m + 1 := ⟨f - 1, by simp only [List.length_cons] at hf; omega⟩
    have hlen := Lib.encodeRuneZ_length r
    simp only [List.flatMap_cons, List.append_assoc, sgn]
    rw [if_pos (by simp only [List.length_append]; omega), dec_enc r (h r List.mem_cons_self), List.drop_left, sgn_enc rs f _ t (fun x hx => h x (List.mem_cons_of_mem _ hx)) (by simp only [List.length_cons] at hf; omega)]
    simp only [plc, List.cons_append, List.length_cons, Nat.add_sub_add_right, List.length_append, Int.natCast_add, Int.add_assoc]
theorem sgn_nil (f : Nat) (p : Int) : sgn f [] p = [] := by cases f <;> simp [sgn]
theorem encz_length (l : List Int) : l.length ≤ (l.flatMap Lib.encodeRuneZ).length ∧ (l.flatMap Lib.encodeRuneZ).length ≤ 4 * l.length := by
  induction l with
  | nil => simp
  | cons r rs ih =>
    have hlen := Lib.encodeRuneZ_length r
    simp only [List.flatMap_cons, List.length_append, List.length_cons]
    omega
theorem sgnOf_enc (l : List Int) (h : ∀ r ∈ l, Sign r) : sgnOf (strOfNums (l.flatMap Lib.encodeRuneZ)) = plc l 0 := by
  unfold sgnOf
  rw [nums_size, bytes_of_nums _ (encs_byte l)]
  have := sgn_enc l (l.flatMap Lib.encodeRuneZ).length 0 [] h (encz_length l).1
  rw [List.append_nil, sgn_nil, List.append_nil] at this
  exact this
theorem sgn_signs : ∀ (f : Nat) (l : List Int) (p : Int), (∀ x ∈ l, 0 ≤ x ∧ x ≤ 255) → ∀ q ∈ sgn f l p, Sign q.2
  | 0, _, _, _, q, hq => by simp [sgn] at hq
  | f + 1, l, p, h, q, hq => by
    simp only [sgn] at hq
    split at hq
    · rcases List.mem_cons.1 hq with rfl | hq
      · exact decL_sign l h
      · exact sgn_signs f _ _ (fun x hx => h x (List.mem_of_mem_drop hx)) q hq
    · simp at hq
theorem sgn_length : ∀ (f : Nat) (l : List Int) (p : Int), (sgn f l p).length ≤ l.length
  | 0, _, _ => by simp [sgn]
  | f + 1, l, p => by
    simp only [sgn]
    split
    · rename_i hne
      have := sgn_length f (l.drop (decL l).2) (p + (decL l).2)
      have hw := decL_len l hne
      rw [List.length_drop] at this
      simp only [List.length_cons]
      omega
    · simp
theorem runeP_sign (r : Int) (h : Sign r) : Sign (runeP r) := by
  obtain ⟨h0, h1, h2⟩ := h
  unfold runeP Sign
  generalize hr : (if 65281 ≤ r ∧ r ≤ 65374 then r - 65248 else r) = a
  have : 0 ≤ a ∧ a ≤ 1114111 ∧ ¬ (55296 ≤ a ∧ a ≤ 57343) := by split at hr <;> omega
  clear hr
  simp only []
  (repeat' split) <;> omega
/-- A string's runes, made alike. -/
def runesOf (s : ByteArray) : List Int := (sgnOf s).map fun p => runeP p.2
theorem runesOf_sign (s : ByteArray) : ∀ r ∈ runesOf s, Sign r := by
  intro r hr
  obtain ⟨q, hq, rfl⟩ := List.mem_map.1 hr
  exact runeP_sign _ (sgn_signs _ _ _ (byte_range s) q hq)
theorem runesOf_length (s : ByteArray) : (runesOf s).length ≤ s.size := by
  unfold runesOf sgnOf
  rw [List.length_map, ← bytesOf_length]
  exact sgn_length _ _ _
theorem text_runes (s : ByteArray) (h : s.size < 17592186044415) : fold_Text.f s = some (strOfNums ((runesOf s).flatMap Lib.encodeRuneZ)) := by
  rw [text_eq s h]
  unfold runesOf
  rw [List.flatMap_map]
theorem fold_runes (s : ByteArray) (h : s.size < 17592186044415) : fold_Fold.f s = some (runesOf s, (sgnOf s).map (fun p => p.1) ++ [(s.size : Int)]) := fold_eq s h
theorem runes_enc (l : List Int) (h : ∀ r ∈ l, Sign r) : runesOf (strOfNums (l.flatMap Lib.encodeRuneZ)) = l.map runeP := by
  unfold runesOf
  rw [sgnOf_enc l h]
  have := plc_snd l 0
  rw [show (fun p : Int × Int => runeP p.2) = runeP ∘ (fun p : Int × Int => p.2) from rfl, ← List.map_map, this]
theorem runesOf_text (s : ByteArray) : runesOf (strOfNums ((runesOf s).flatMap Lib.encodeRuneZ)) = runesOf s := by
  rw [runes_enc _ (runesOf_sign s)]
  unfold runesOf
  rw [List.map_map]
  refine List.map_congr_left fun q _ => ?_
  exact runeP_twice _
theorem ints_loop (l m : List Int) (hl : l.length = m.length) (hb : l.length < 4611686018427387904) : ∀ (d k i : Nat), i + d = l.length → d < k → interlocutorref3_Ints.l0 k l m (i : Int) = some (decide (l.drop i = m.drop i)) := by
  intro d
  induction d with
  | zero =>
    intro k i hi hk
    obtain ⟨k, rfl⟩ : ∃ m, k = m + 1 := ⟨k - 1, by omega⟩
    simp only [interlocutorref3_Ints.l0]
    rw [if_neg (by omega), List.drop_eq_nil_of_le (by omega), List.drop_eq_nil_of_le (by omega)]
    simp
  | succ d ih =>
    intro k i hi hk
    obtain ⟨k, rfl⟩ : ∃ m, k = m + 1 := ⟨k - 1, by omega⟩
    have h1 : i < l.length := by omega
    have h2 : i < m.length := by omega
    simp only [interlocutorref3_Ints.l0]
    rw [if_pos (by omega), if_pos (by omega), if_pos (by omega)]
    have e1 : rd l (i : Int) = l[i] := by unfold rd; simp [List.getElem?_eq_getElem h1]
    have e2 : rd m (i : Int) = m[i] := by unfold rd; simp [List.getElem?_eq_getElem h2]
    rw [e1, e2, List.drop_eq_getElem_cons h1, List.drop_eq_getElem_cons h2, wrapIn _ (by omega) (by omega), show (i : Int) + 1 = ((i + 1 : Nat) : Int) by omega, ih k (i + 1) (by omega) (by omega)]
    by_cases c : l[i] = m[i]
    · rw [if_pos c, c]
      congr 1
      rw [decide_eq_decide]
      exact ⟨fun h => by rw [h], fun h => (List.cons.inj h).2⟩
    · rw [if_neg c]
      congr 1
      symm
      rw [decide_eq_false_iff_not]
      exact fun h => c (List.cons.inj h).1
theorem ints_ok (l m : List Int) (hb : l.length < 4611686018427387904) (k : Nat) (hk : l.length < k) : interlocutorref3_Ints.f k l m = some (decide (l = m)) := by
  unfold interlocutorref3_Ints.f
  by_cases c : l.length = m.length
  · rw [if_pos (by omega), show (0 : Int) = ((0 : Nat) : Int) from rfl, ints_loop l m c hb l.length k 0 (by omega) hk]
    simp
  · rw [if_neg (by omega)]
    congr 1
    symm
    rw [decide_eq_false_iff_not]
    intro h
    exact c (by rw [h])
theorem or_128 (y : Int) (h0 : 0 ≤ y) (h1 : y < 64) : Go.bits .or .i64 128 y = 128 + y := or_i64 128 y (by omega) (by omega) (by omega) h0 h1
theorem one_ok (r : Int) (h : Sign r) : interlocutorref3_One.f r = some (strOfNums (Lib.encodeRuneZ r)) := by
  obtain ⟨h0, h1, h2⟩ := h
  unfold interlocutorref3_One.f
  have a1 := fun x (g0 : 0 ≤ x) (g1 : x < 4611686018427387904) => (and_i64 x g0 g1).1
  by_cases c1 : r < 128
  · rw [if_pos c1, Lib.encodeRuneZ_one h0 (by omega), show r % 256 = r by omega]
  rw [if_neg c1]
  by_cases c2 : r < 2048
  · rw [if_pos c2, Lib.encodeRuneZ_two (by omega) (by omega), a1 r (by omega) (by omega), or_128 _ (by omega) (by omega), or_i64 192 _ (by omega) (by omega) (by omega) (by omega) (by omega)]
    rw [show (192 + r / 64) % 256 = 192 + r / 64 by omega, show (128 + r % 64) % 256 = 128 + r % 64 by omega]
  rw [if_neg c2]
  by_cases c3 : r < 65536
  · rw [if_pos c3, Lib.encodeRuneZ_three (by omega), a1 r (by omega) (by omega), a1 (r / 64) (by omega) (by omega), or_128 _ (by omega) (by omega), or_128 _ (by omega) (by omega)]
    rw [show Go.bits .or .i64 224 (r / 4096) = 224 + r / 4096 from bits_join .i64 62 (by decide) i64_small 4 224 _ (by omega) (by omega) (by omega) (by omega) (by omega) (by omega)]
    rw [show (224 + r / 4096) % 256 = 224 + r / 4096 by omega, show (128 + r / 64 % 64) % 256 = 128 + r / 64 % 64 by omega, show (128 + r % 64) % 256 = 128 + r % 64 by omega]
  · rw [if_neg c3, Lib.encodeRuneZ_four (by omega) h1, a1 r (by omega) (by omega), a1 (r / 64) (by omega) (by omega), a1 (r / 4096) (by omega) (by omega), or_128 _ (by omega) (by omega), or_128 _ (by omega) (by omega), or_128 _ (by omega) (by omega)]
    rw [show Go.bits .or .i64 240 (r / 262144) = 240 + r / 262144 from bits_join .i64 62 (by decide) i64_small 4 240 _ (by omega) (by omega) (by omega) (by omega) (by omega) (by omega)]
    rw [show (240 + r / 262144) % 256 = 240 + r / 262144 by omega, show (128 + r / 4096 % 64) % 256 = 128 + r / 4096 % 64 by omega, show (128 + r / 64 % 64) % 256 = 128 + r / 64 % 64 by omega, show (128 + r % 64) % 256 = 128 + r % 64 by omega]
theorem nums_append (a b : List Int) : strOfNums a ++ strOfNums b = strOfNums (a ++ b) := by
  unfold strOfNums
  apply ByteArray.ext
  rw [ByteArray.data_append]
  simp
theorem text_loop (l : List Int) (hl : l.length < 17592186044415) (hs : ∀ r ∈ l, Sign r) : ∀ (d k i : Nat), i + d = l.length → d < k →
    interlocutorref3_Text.l0 k l (strOfNums ((l.take i).flatMap Lib.encodeRuneZ)) (i : Int) = some (strOfNums (l.flatMap Lib.encodeRuneZ)) := by
  intro d
  induction d with
  | zero =>
    intro k i hi hk
    obtain ⟨k, rfl⟩ : ∃ m, k = m + 1 := ⟨k - 1, by omega⟩
    simp only [interlocutorref3_Text.l0]
    rw [if_neg (by omega), List.take_of_length_le (by omega)]
  | succ d ih =>
    intro k i hi hk
    obtain ⟨k, rfl⟩ : ∃ m, k = m + 1 := ⟨k - 1, by omega⟩
    have h1 : i < l.length := by omega
    simp only [interlocutorref3_Text.l0]
    rw [if_pos (by omega), if_pos (by omega)]
    have e1 : rd l (i : Int) = l[i] := by unfold rd; simp [List.getElem?_eq_getElem h1]
    rw [e1, one_ok _ (hs _ (List.getElem_mem h1))]
    simp only [Option.bind_some]
    have hlen := (encz_length (l.take i)).2
    have hlen2 := Lib.encodeRuneZ_length l[i]
    rw [List.length_take] at hlen
    rw [if_pos (by rw [nums_size, nums_size]; omega), nums_append, wrapIn _ (by omega) (by omega), show (i : Int) + 1 = ((i + 1 : Nat) : Int) by omega]
    have := ih k (i + 1) (by omega) (by omega)
    rw [List.take_succ_eq_append_getElem h1, List.flatMap_append] at this
    simpa using this
theorem ref_text (s : ByteArray) (hs : s.size < 17592186044415) (k : Nat) (hk : s.size + 20 < k) : interlocutorref3_Text.f k s = fold_Text.f s := by
  unfold interlocutorref3_Text.f
  rw [ref_fold s hs k hk, text_runes s hs]
  simp only [Option.bind_some]
  have hl := runesOf_length s
  have := text_loop (runesOf s) (by omega) (runesOf_sign s) (runesOf s).length k 0 (by omega) (by omega)
  exact this
end Go.Proofs.Ytmpmjghhikdefaa.Plain
