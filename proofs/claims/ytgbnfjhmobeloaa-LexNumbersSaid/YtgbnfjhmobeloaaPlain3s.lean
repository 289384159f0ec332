/- Plain facts on a string's signs as a list; the reference's next and Fold are the program's. -/
import Derived.Test.YtgbnfjhmobeloaaPlain3u
import Derived.Test.YtgbnfjhmobeloaaGx3
import Derived.Test.YtgbnfjhmobeloaaGx6
namespace Go.Proofs.Ytgbnfjhmobeloaa.Plain
open Go.RowKit Go.Proofs.Ytgbnfjhmobeloaa.G Go.Proofs.YtgbnfjhmobeloaaW.PrintWords Go.Proofs.YtgbnfjhmobeloaaW.PrintLast Go.Proofs.YtgbnfjhmobeloaaW.PrintMore
set_option linter.unusedVariables false
set_option linter.unusedSimpArgs false
theorem decL_len (l : List Int) (h : 0 < l.length) : 1 ≤ (decL l).2 ∧ (decL l).2 ≤ 4 ∧ (decL l).2 ≤ l.length := by
  unfold decL
  simp only []
  split
  · exact ⟨by simp, by simp, by simp only []; omega⟩
  · split
    · rename_i hc
      rw [ctn_iff] at hc
      split
      · exact ⟨by simp, by simp, by simp only []; omega⟩
      · exact ⟨by simp, by simp, by simp only []; omega⟩
    · split
      · rename_i hc
        rw [ctn_iff, ctn_iff] at hc
        split
        · exact ⟨by simp, by simp, by simp only []; omega⟩
        · exact ⟨by simp, by simp, by simp only []; omega⟩
      · split
        · rename_i hc
          rw [ctn_iff, ctn_iff, ctn_iff] at hc
          split
          · exact ⟨by simp, by simp, by simp only []; omega⟩
          · exact ⟨by simp, by simp, by simp only []; omega⟩
        · exact ⟨by simp, by simp, by simp only []; omega⟩
/-- A number that is a sign. -/
def Sign (r : Int) : Prop := 0 ≤ r ∧ r ≤ 1114111 ∧ ¬ (55296 ≤ r ∧ r ≤ 57343)
theorem decL_sign (l : List Int) (hb : ∀ x ∈ l, 0 ≤ x ∧ x ≤ 255) : Sign (decL l).1 := by
  have r0 := getD_range l hb 0
  have r1 := getD_range l hb 1
  have r2 := getD_range l hb 2
  unfold decL Sign
  simp only []
  split
  · simp only []; omega
  · split
    · split <;> (simp only []; omega)
    · split
      · split <;> (simp only []; omega)
      · split
        · split <;> (simp only []; omega)
        · simp only []; omega
def sgn : Nat → List Int → Int → List (Int × Int)
  | 0, _, _ => []
  | f + 1, l, p => if 0 < l.length then (p, (decL l).1) :: sgn f (l.drop (decL l).2) (p + (decL l).2) else []
def sgnOf (s : ByteArray) : List (Int × Int) := sgn s.size (bytesOf s) 0
theorem signs_eq (s : ByteArray) : ∀ (f pos : Nat), (signsFrom s f pos).map (fun p => ((p.1 : Int), (p.2 : Int))) = sgn f ((bytesOf s).drop pos) pos := by
  intro f
  induction f with
  | zero => intro pos; rfl
  | succ f ih =>
    intro pos
    have hl := bytesOf_length s
    simp only [signsFrom, sgn]
    by_cases h : pos < s.size
    · rw [if_pos h, if_pos (by rw [List.length_drop]; omega)]
      obtain ⟨e1, e2⟩ := decode_eq s pos h
      rw [List.map_cons, ih, e2, List.drop_drop]
      simp only [e1]
      rw [show ((pos + (decL ((bytesOf s).drop pos)).2 : Nat) : Int) = (pos : Int) + ((decL ((bytesOf s).drop pos)).2 : Int) by omega]
    · rw [if_neg h, if_neg (by rw [List.length_drop]; omega)]
      rfl
theorem fold_eq (s : ByteArray) (h : s.size < 17592186044415) : fold_Fold.f s = some ((sgnOf s).map (fun p => runeP p.2), (sgnOf s).map (fun p => p.1) ++ [(s.size : Int)]) := by
  unfold fold_Fold.f
  rw [if_pos h]
  have e := signs_eq s s.size 0
  rw [List.drop_zero] at e
  unfold signsOf sgnOf
  rw [show ((0 : Nat) : Int) = 0 from rfl] at e
  rw [← e, List.map_map, List.map_map]
  rfl
theorem bt_getD (s : ByteArray) (i : Nat) : bt s (i : Int) = (bytesOf s).getD i 0 := by
  rw [← rd_bytesOf]
  unfold rd
  rfl
theorem size_ok (c : Int) (h0 : 0 ≤ c) (h1 : c ≤ 255) : interlocutorref3_size.f 5 c = some (if c < 128 then 1 else if 194 ≤ c ∧ c ≤ 223 then 2 else if 224 ≤ c ∧ c ≤ 239 then 3 else if 240 ≤ c ∧ c ≤ 244 then 4 else 0) := by
  have j1 : ∀ (k : Nat) (b : Bool), interlocutorref3_size.j1 (k + 1) c b = some (if b = true then 3 else if 240 ≤ c ∧ c ≤ 244 then 4 else 0) := fun k b => by
    simp only [interlocutorref3_size.j1]
    repeat' split
    all_goals first | rfl | (exfalso; omega)
  have j0 : ∀ (k : Nat) (b : Bool), interlocutorref3_size.j0 (k + 2) c b = some (if b = true then 2 else if 224 ≤ c ∧ c ≤ 239 then 3 else if 240 ≤ c ∧ c ≤ 244 then 4 else 0) := fun k b => by
    simp only [interlocutorref3_size.j0, j1, decide_eq_true_eq]
    repeat' split
    all_goals first | rfl | (exfalso; first | omega | simp_all) 
  unfold interlocutorref3_size.f
  rw [j0, j0]
  simp only [decide_eq_true_eq]
  repeat' split
  all_goals first | rfl | (exfalso; first | omega | simp_all)
theorem i64_small (n : Int) (h0 : 0 ≤ n) (h1 : n < 2 ^ 62) : IntKind.i64.wrap n = n := by rw [IntKind.wrap_i64]; omega
theorem and_i64 (x : Int) (h0 : 0 ≤ x) (h1 : x < 4611686018427387904) : Go.bits .and .i64 x 63 = x % 64 ∧ Go.bits .and .i64 x 31 = x % 32 ∧ Go.bits .and .i64 x 15 = x % 16 ∧ Go.bits .and .i64 x 7 = x % 8 :=
  ⟨bits_mask .i64 62 (by decide) i64_small 6 (by decide) x h0 h1, bits_mask .i64 62 (by decide) i64_small 5 (by decide) x h0 h1, bits_mask .i64 62 (by decide) i64_small 4 (by decide) x h0 h1, bits_mask .i64 62 (by decide) i64_small 3 (by decide) x h0 h1⟩
theorem or_i64 (x y : Int) (h0 : 0 ≤ x) (h1 : x < 4611686018427387904) (hx : x % 64 = 0) (h2 : 0 ≤ y) (h3 : y < 64) : Go.bits .or .i64 x y = x + y :=
  bits_join .i64 62 (by decide) i64_small 6 x y h0 hx h1 h2 h3 (by omega)
theorem next_step (s : ByteArray) (n x : Int) (i k : Nat) (hi : (i : Int) < n) (his : i < s.size) (hs : s.size ≤ 4611686018427387904) (h0 : 0 ≤ x) (h1 : x < 1099511627776) :
    interlocutorref3_next.l0 (k + 1) s n x (i : Int) = if (bytesOf s).getD i 0 / 64 = 2 then interlocutorref3_next.l0 k s n (x * 64 + (bytesOf s).getD i 0 % 64) ((i + 1 : Nat) : Int) else some (65533, 1) := by
  have hb := getD_range (bytesOf s) (byte_range s) i
  simp only [interlocutorref3_next.l0]
  rw [if_pos hi, if_pos (by omega), if_pos (by omega), bt_getD]
  generalize (bytesOf s).getD i 0 = b at hb ⊢
  by_cases c1 : b < 128
  · rw [if_pos c1, if_neg (by omega)]
  · rw [if_neg c1]
    by_cases c2 : b > 191
    · rw [if_pos c2, if_neg (by omega)]
    · rw [if_neg c2, if_pos (by omega), wrapIn (x * 64) (by omega) (by omega), wrapIn b (by omega) (by omega), (and_i64 b (by omega) (by omega)).1, or_i64 _ _ (by omega) (by omega) (by omega) (by omega) (by omega), wrapIn _ (by omega) (by omega)]
      rfl
theorem next_end (s : ByteArray) (n x : Int) (k : Nat) :
    interlocutorref3_next.l0 (k + 1) s n x n = if n = 3 then (if x < 2048 ∨ (55296 ≤ x ∧ x ≤ 57343) then some (65533, 1) else some (x, 3)) else if n = 4 then (if x < 65536 ∨ x > 1114111 then some (65533, 1) else some (x, 4)) else some (x, n) := by
  simp only [interlocutorref3_next.l0]
  rw [if_neg (by omega), in_ok]
  simp only [Option.bind_some, decide_eq_true_eq]
  by_cases c3 : n = 3
  · subst c3
    rw [if_pos rfl, if_pos rfl]
    by_cases c : x < 2048
    · rw [if_pos c, if_pos (.inl c)]
    · rw [if_neg c]
      by_cases c' : 55296 ≤ x ∧ x ≤ 57343
      · rw [if_pos c', if_pos (.inr c')]
      · rw [if_neg c', if_neg (by omega), if_neg (by omega)]
  · rw [if_neg c3, if_neg c3]
    by_cases c4 : n = 4
    · subst c4
      rw [if_pos rfl, if_pos rfl]
      by_cases c : x < 65536
      · rw [if_pos c, if_pos (.inl c)]
      · rw [if_neg c]
        by_cases c' : x > 1114111
        · rw [if_pos c', if_pos (.inr c')]
        · rw [if_neg c', if_neg (by omega)]
    · rw [if_neg c4, if_neg c4]
theorem next_j0 (s : ByteArray) (n m : Int) (k : Nat) (h : 0 < s.size) (hn : (n = 2 ∧ m = 32) ∨ (n = 3 ∧ m = 16) ∨ (n = 4 ∧ m = 8)) : interlocutorref3_next.j0 (k + 1) s n false = interlocutorref3_next.l0 k s n ((bytesOf s).getD 0 0 % m) 1 := by
  have hb := getD_range (bytesOf s) (byte_range s) 0
  simp only [interlocutorref3_next.j0]
  rw [if_neg (by simp), if_pos (by omega), show bt s 0 = (bytesOf s).getD 0 0 from bt_getD s 0]
  generalize (bytesOf s).getD 0 0 = b at hb ⊢
  rw [wrapIn b (by omega) (by omega)]
  have h3 := and_i64 b (by omega) (by omega)
  rcases hn with ⟨rfl, rfl⟩ | ⟨rfl, rfl⟩ | ⟨rfl, rfl⟩
  · rw [if_pos (by decide +kernel), show shr .i64 255 (IntKind.u64.wrap (wrap64 (2 + 1))) = 31 by decide +kernel, h3.2.1]
  · rw [if_pos (by decide +kernel), show shr .i64 255 (IntKind.u64.wrap (wrap64 (3 + 1))) = 15 by decide +kernel, h3.2.2.1]
  · rw [if_pos (by decide +kernel), show shr .i64 255 (IntKind.u64.wrap (wrap64 (4 + 1))) = 7 by decide +kernel, h3.2.2.2]
theorem next_ok (s : ByteArray) (h : 0 < s.size) (hs : s.size ≤ 4611686018427387904) : interlocutorref3_next.f 12 s = some ((decL (bytesOf s)).1, ((decL (bytesOf s)).2 : Int)) := by
  have hl := bytesOf_length s
  have r0 := getD_range (bytesOf s) (byte_range s) 0
  have r1 := getD_range (bytesOf s) (byte_range s) 1
  have r2 := getD_range (bytesOf s) (byte_range s) 2
  have r3 := getD_range (bytesOf s) (byte_range s) 3
  unfold interlocutorref3_next.f
  rw [if_pos (by omega), show bt s 0 = (bytesOf s).getD 0 0 from bt_getD s 0, at_rounds (fun k => interlocutorref3_size.mono _ k) (show 5 ≤ 12 by omega) (size_ok _ r0.1 r0.2)]
  simp only [Option.bind_some]
  have s1 : ∀ (n x : Int) (k : Nat), 1 < n → 1 < s.size → 0 ≤ x → x < 1099511627776 → interlocutorref3_next.l0 (k + 1) s n x 1 = if (bytesOf s).getD 1 0 / 64 = 2 then interlocutorref3_next.l0 k s n (x * 64 + (bytesOf s).getD 1 0 % 64) 2 else some (65533, 1) := fun n x k a b c d => next_step s n x 1 k a b hs c d
  have s2 : ∀ (n x : Int) (k : Nat), 2 < n → 2 < s.size → 0 ≤ x → x < 1099511627776 → interlocutorref3_next.l0 (k + 1) s n x 2 = if (bytesOf s).getD 2 0 / 64 = 2 then interlocutorref3_next.l0 k s n (x * 64 + (bytesOf s).getD 2 0 % 64) 3 else some (65533, 1) := fun n x k a b c d => next_step s n x 2 k a b hs c d
  have s3 : ∀ (n x : Int) (k : Nat), 3 < n → 3 < s.size → 0 ≤ x → x < 1099511627776 → interlocutorref3_next.l0 (k + 1) s n x 3 = if (bytesOf s).getD 3 0 / 64 = 2 then interlocutorref3_next.l0 k s n (x * 64 + (bytesOf s).getD 3 0 % 64) 4 else some (65533, 1) := fun n x k a b c d => next_step s n x 3 k a b hs c d
  have bad : ∀ (n : Int), interlocutorref3_next.j0 12 s n true = some (65533, 1) := fun n => by simp only [interlocutorref3_next.j0]; rw [if_pos trivial]
  unfold decL
  simp only [ctn_iff, hl]
  generalize (bytesOf s).getD 1 0 = b1 at *
  generalize (bytesOf s).getD 2 0 = b2 at *
  generalize (bytesOf s).getD 3 0 = b3 at *
  have j0 := fun n m k hn => next_j0 s n m k h hn
  generalize (bytesOf s).getD 0 0 = b0 at *
  by_cases c1 : b0 < 128
  · rw [if_pos c1, if_pos rfl, wrapIn _ (by omega) (by omega), if_pos c1]
    rfl
  rw [if_neg c1, if_neg c1]
  by_cases c2 : 194 ≤ b0 ∧ b0 ≤ 223
  · rw [if_pos c2, if_neg (by omega), if_neg (by omega)]
    by_cases cs : s.size < 2
    · rw [decide_eq_true (by omega), bad, if_neg (by omega), if_neg (by omega), if_neg (by omega)]
      rfl
    · rw [decide_eq_false (by omega), j0 2 32 11 (.inl ⟨rfl, rfl⟩), s1 _ _ _ (by omega) (by omega) (by omega) (by omega)]
      by_cases cc : b1 / 64 = 2
      · rw [if_pos cc, next_end, if_neg (show ¬ (2 : Int) = 3 by omega), if_neg (show ¬ (2 : Int) = 4 by omega), if_pos (by omega), if_pos (by omega)]
        rfl
      · rw [if_neg cc, if_neg (by omega), if_neg (by omega), if_neg (by omega)]
        rfl
  rw [if_neg c2]
  by_cases c3 : 224 ≤ b0 ∧ b0 ≤ 239
  · rw [if_pos c3, if_neg (by omega), if_neg (by omega)]
    by_cases cs : s.size < 3
    · rw [decide_eq_true (by omega), bad, if_neg (by omega), if_neg (by omega), if_neg (by omega)]
      rfl
    · rw [decide_eq_false (by omega), j0 3 16 11 (.inr (.inl ⟨rfl, rfl⟩)), s1 _ _ _ (by omega) (by omega) (by omega) (by omega), s2 _ _ _ (by omega) (by omega) (by omega) (by omega)]
      by_cases cc : b1 / 64 = 2
      · rw [if_pos cc]
        by_cases cd : b2 / 64 = 2
        · rw [if_pos cd, next_end, if_pos rfl, if_neg (show ¬ (b0 / 32 = 6 ∧ 1 < s.size ∧ b1 / 64 = 2) by omega), if_pos (show b0 / 16 = 14 ∧ (1 < s.size ∧ b1 / 64 = 2) ∧ 2 < s.size ∧ b2 / 64 = 2 by omega), show (b0 % 16 * 64 + b1 % 64) * 64 + b2 % 64 = b0 % 16 * 4096 + b1 % 64 * 64 + b2 % 64 by omega]
          by_cases ce : b0 % 16 * 4096 + b1 % 64 * 64 + b2 % 64 < 2048 ∨ (55296 ≤ b0 % 16 * 4096 + b1 % 64 * 64 + b2 % 64 ∧ b0 % 16 * 4096 + b1 % 64 * 64 + b2 % 64 ≤ 57343)
          · rw [if_pos ce, if_neg (by omega)]
            rfl
          · rw [if_neg ce, if_pos (by omega)]
            rfl
        · rw [if_neg cd, if_neg (by omega), if_neg (by omega), if_neg (by omega)]
          rfl
      · rw [if_neg cc, if_neg (by omega), if_neg (by omega), if_neg (by omega)]
        rfl
  rw [if_neg c3]
  by_cases c4 : 240 ≤ b0 ∧ b0 ≤ 244
  · rw [if_pos c4, if_neg (by omega), if_neg (by omega)]
    by_cases cs : s.size < 4
    · rw [decide_eq_true (by omega), bad, if_neg (by omega), if_neg (by omega), if_neg (by omega)]
      rfl
    · rw [decide_eq_false (by omega), j0 4 8 11 (.inr (.inr ⟨rfl, rfl⟩)), s1 _ _ _ (by omega) (by omega) (by omega) (by omega), s2 _ _ _ (by omega) (by omega) (by omega) (by omega), s3 _ _ _ (by omega) (by omega) (by omega) (by omega)]
      by_cases cc : b1 / 64 = 2
      · rw [if_pos cc]
        by_cases cd : b2 / 64 = 2
        · rw [if_pos cd]
          by_cases ce : b3 / 64 = 2
          · rw [if_pos ce, next_end, if_neg (show ¬ (4 : Int) = 3 by omega), if_pos rfl, if_neg (show ¬ (b0 / 32 = 6 ∧ 1 < s.size ∧ b1 / 64 = 2) by omega), if_neg (show ¬ (b0 / 16 = 14 ∧ (1 < s.size ∧ b1 / 64 = 2) ∧ 2 < s.size ∧ b2 / 64 = 2) by omega), if_pos (show b0 / 8 = 30 ∧ (1 < s.size ∧ b1 / 64 = 2) ∧ (2 < s.size ∧ b2 / 64 = 2) ∧ 3 < s.size ∧ b3 / 64 = 2 by omega), show ((b0 % 8 * 64 + b1 % 64) * 64 + b2 % 64) * 64 + b3 % 64 = b0 % 8 * 262144 + b1 % 64 * 4096 + b2 % 64 * 64 + b3 % 64 by omega]
            by_cases cf : b0 % 8 * 262144 + b1 % 64 * 4096 + b2 % 64 * 64 + b3 % 64 < 65536 ∨ b0 % 8 * 262144 + b1 % 64 * 4096 + b2 % 64 * 64 + b3 % 64 > 1114111
            · rw [if_pos cf, if_neg (by omega)]
              rfl
            · rw [if_neg cf, if_pos (by omega)]
              rfl
          · rw [if_neg ce, if_neg (by omega), if_neg (by omega), if_neg (by omega)]
            rfl
        · rw [if_neg cd, if_neg (by omega), if_neg (by omega), if_neg (by omega)]
          rfl
      · rw [if_neg cc, if_neg (by omega), if_neg (by omega), if_neg (by omega)]
        rfl
  rw [if_neg c4, if_neg (by omega), if_pos rfl, bad]
  by_cases c5 : b0 / 32 = 6 ∧ 1 < s.size ∧ b1 / 64 = 2
  · rw [if_pos c5, if_neg (by omega)]
    rfl
  · rw [if_neg c5, if_neg (by omega)]
    by_cases c6 : b0 / 8 = 30 ∧ (1 < s.size ∧ b1 / 64 = 2) ∧ (2 < s.size ∧ b2 / 64 = 2) ∧ 3 < s.size ∧ b3 / 64 = 2
    · rw [if_pos c6, if_neg (by omega)]
      rfl
    · rw [if_neg c6]
      rfl
theorem bytes_extract (s : ByteArray) (i : Nat) : bytesOf (s.extract i s.size) = (bytesOf s).drop i := by
  unfold bytesOf
  rw [← List.map_drop]
  congr 1
  simp only [ByteArray.data_extract, Array.toList_extract, List.extract_eq_take_drop]
  exact List.take_of_length_le (by rw [List.length_drop, data_length]; omega)
theorem ref_fold_loop (s : ByteArray) (hs : s.size < 17592186044415) : ∀ (d k f i : Nat) (x4 x5 : List Int), s.size - i ≤ d → i ≤ s.size → d + 20 < k → s.size - i ≤ f → x4.length ≤ i → x5.length ≤ i →
    interlocutorref3_Fold.l0 k s x4 x5 (i : Int) = some (x4 ++ (sgn f ((bytesOf s).drop i) i).map (fun p => runeP p.2), x5 ++ (sgn f ((bytesOf s).drop i) i).map (fun p => p.1) ++ [(s.size : Int)]) := by
  intro d
  have hl := bytesOf_length s
  induction d with
  | zero =>
    intro k f i x4 x5 hd hi hk hf h4 h5
    obtain ⟨k, rfl⟩ : ∃ m, k = m + 1 := ⟨k - 1, by omega⟩
    simp only [interlocutorref3_Fold.l0]
    rw [if_neg (by omega), if_pos (by omega)]
    have : (bytesOf s).drop i = [] := List.drop_eq_nil_of_le (by omega)
    rw [this]
    cases f <;> simp [sgn]
  | succ d ih =>
    intro k f i x4 x5 hd hi hk hf h4 h5
    obtain ⟨k, rfl⟩ : ∃ m, k = m + 1 := ⟨k - 1, by omega⟩
    by_cases hlt : i < s.size
    · obtain ⟨f, rfl⟩ : ∃ m, f = m + 1 := ⟨f - 1, by omega⟩
      simp only [interlocutorref3_Fold.l0, sgn]
      have hne : 0 < ((bytesOf s).drop i).length := by rw [List.length_drop]; omega
      rw [if_pos (by omega), if_pos (by omega), if_pos (by omega), Int.toNat_natCast, if_pos hne]
      have hsz : (s.extract i s.size).size = s.size - i := by rw [ByteArray.size_extract]; omega
      rw [at_rounds (fun k => interlocutorref3_next.mono _ k) (show 12 ≤ k by omega) (next_ok (s.extract i s.size) (by omega) (by omega)), bytes_extract]
      have hw := decL_len _ hne
      have hsg := decL_sign ((bytesOf s).drop i) (fun x hx => byte_range s x (List.mem_of_mem_drop hx))
      rw [List.length_drop] at hw
      generalize hq : decL ((bytesOf s).drop i) = q at *
      obtain ⟨r, wd⟩ := q
      simp only [Sign] at hsg hw
      simp only [Option.bind_some]
      rw [ref_rune_k k (by omega) r (by omega) (by omega)]
      simp only [Option.bind_some]
      rw [if_pos (by omega), if_pos (by omega), wrapIn _ (by omega) (by omega), show (i : Int) + (wd : Int) = ((i + wd : Nat) : Int) by omega]
      rw [ih k f (i + wd) _ _ (by omega) (by omega) (by omega) (by omega) (by simp; omega) (by simp; omega), List.drop_drop]
      simp [List.append_assoc]
    · simp only [interlocutorref3_Fold.l0]
      rw [if_neg (by omega), if_pos (by omega)]
      have : (bytesOf s).drop i = [] := List.drop_eq_nil_of_le (by omega)
      rw [this]
      cases f <;> simp [sgn]
theorem ref_fold (s : ByteArray) (hs : s.size < 17592186044415) (k : Nat) (hk : s.size + 20 < k) : interlocutorref3_Fold.f k s = some ((sgnOf s).map (fun p => runeP p.2), (sgnOf s).map (fun p => p.1) ++ [(s.size : Int)]) := by
  unfold interlocutorref3_Fold.f
  have := ref_fold_loop s hs s.size k s.size 0 [] [] (by omega) (by omega) hk (by omega) (by simp) (by simp)
  rw [List.drop_zero] at this
  simpa [sgnOf] using this
end Go.Proofs.Ytgbnfjhmobeloaa.Plain
