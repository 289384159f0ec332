/- DecTexts holds for every input: any decimal's text is the document's; its digits are its number's. No condition. -/
import Derived.Test.YtjbihflpjkaifaaDoorPlain2a
import Derived.Test.YtjbihflpjkaifaaDoorPlain2t
import Derived.Test.YtjbihflpjkaifaaDoorGx11
namespace Go.Proofs.YtjbihflpjkaifaaDoor.Pure
open Go.RowKit Go.Proofs.YtjbihflpjkaifaaDoor.G Go.Proofs.YtjbihflpjkaifaaDoorW.PrintWords Go.Proofs.YtjbihflpjkaifaaDoorW.PrintLast Go.Proofs.YtjbihflpjkaifaaDoorW.PrintMore Go.Proofs.YtjbihflpjkaifaaDoor.Plain
set_option linter.unusedVariables false
set_option linter.unusedSimpArgs false
def isD (b : UInt8) : Bool := 48 ≤ b.toNat && b.toNat ≤ 57
/-- A text's bytes, read one by one: the number, the points. -/
def scan : List UInt8 → Nat → Nat → Nat × Nat
  | [], n, p => (n, p)
  | b :: l, n, p => scan l (if isD b then 10 * n + (b.toNat - 48) else n) (if b.toNat = 46 then p + 1 else p)
def okscan : List UInt8 → Nat → Prop
  | [], _ => True
  | b :: l, n => (if isD b then 10 * n + (b.toNat - 48) else n) < 1000000000000000000 ∧ okscan l (if isD b then 10 * n + (b.toNat - 48) else n)
theorem isD_digit (d : Nat) : (UInt8.ofNat (48 + d % 10)).toNat = 48 + d % 10 ∧ isD (UInt8.ofNat (48 + d % 10)) = true := by
  have h : (UInt8.ofNat (48 + d % 10)).toNat = 48 + d % 10 := by
    rw [UInt8.toNat_ofNat']
    omega
  refine ⟨h, ?_⟩
  unfold isD
  rw [h]
  simp
  omega
theorem val_succ (w v u : Nat) : v * 10 ^ (w + 1) + u % 10 ^ (w + 1) = 10 * (v * 10 ^ w + u / 10 % 10 ^ w) + u % 10 := by
  have e1 : u % 10 ^ (w + 1) / 10 = u / 10 % 10 ^ w := by rw [Nat.pow_succ, Nat.mul_comm, Nat.mod_mul_right_div_self]
  have e2 : u % 10 ^ (w + 1) % 10 = u % 10 := Nat.mod_mod_of_dvd _ ⟨10 ^ w, by rw [Nat.pow_succ, Nat.mul_comm]⟩
  have e3 : v * 10 ^ (w + 1) = 10 * (v * 10 ^ w) := by rw [Nat.pow_succ, ← Nat.mul_assoc, Nat.mul_comm]
  rw [e3, ← e1]
  omega
theorem scan_dgs : ∀ (w u v p : Nat) (l : List UInt8), scan (dgs w u ++ l) v p = scan l (v * 10 ^ w + u % 10 ^ w) p
  | 0, u, v, p, l => by simp [dgs, Nat.mod_one]
  | w + 1, u, v, p, l => by
    obtain ⟨h1, h2⟩ := isD_digit u
    rw [dgs, List.append_assoc, scan_dgs w, List.singleton_append, scan, if_pos h2, h1, if_neg (by omega), val_succ]
    congr 1
    omega
theorem okscan_dgs : ∀ (w u v : Nat) (l : List UInt8), v * 10 ^ w + u % 10 ^ w < 1000000000000000000 → okscan l (v * 10 ^ w + u % 10 ^ w) → okscan (dgs w u ++ l) v
  | 0, u, v, l, _, h => by simpa [dgs, Nat.mod_one] using h
  | w + 1, u, v, l, hb, h => by
    obtain ⟨h1, h2⟩ := isD_digit u
    rw [val_succ] at hb h
    rw [dgs, List.append_assoc]
    refine okscan_dgs w _ v _ (by omega) ?_
    rw [List.singleton_append, okscan, if_pos h2, h1]
    rw [show 48 + u % 10 - 48 = u % 10 by omega]
    exact ⟨hb, h⟩
theorem bt_list (t : ByteArray) (i : Nat) (b : UInt8) (l : List UInt8) (h : t.data.toList.drop i = b :: l) : i < t.size ∧ bt t (i : Int) = (b.toNat : Int) ∧ t.data.toList.drop (i + 1) = l := by
  have hi : i < t.data.toList.length := by
    rcases Nat.lt_or_ge i t.data.toList.length with h' | h'
    · exact h'
    · rw [List.drop_of_length_le h'] at h
      cases h
  have hs : t.data.toList.length = t.size := by rw [Array.length_toList]; rfl
  rw [List.drop_eq_getElem_cons hi] at h
  injection h with h1 h2
  have hi2 : i < t.size := by omega
  refine ⟨hi2, ?_, h2⟩
  unfold bt
  have e : (i : Int).toNat = i := Int.toNat_natCast i
  simp only [e]
  rw [dif_pos hi2]
  congr 2
theorem scan_loop (a s : Int) (t : ByteArray) (hsz : t.size < 1000) : ∀ (l : List UInt8) (i n p k : Nat), t.data.toList.drop i = l → i + l.length = t.size → l.length < k → okscan l n → n < 1000000000000000000 → p ≤ i →
    interlocutorlaw2_DecTexts.l0 k a s t (n : Int) (p : Int) (i : Int) = interlocutorlaw2_DecTexts.l0 (k - l.length) a s t ((scan l n p).1 : Int) ((scan l n p).2 : Int) (t.size : Int)
  | [], i, n, p, k, h, hi, hk, ho, hn, hp => by
    rw [List.length_nil] at hi
    rw [scan, show (i : Int) = (t.size : Int) by omega]
    rfl
  | b :: l, i, n, p, k, h, hi, hk, ho, hn, hp => by
    obtain ⟨k, rfl⟩ : ∃ j, k = j + 1 := ⟨k - 1, by omega⟩
    obtain ⟨h1, h2, h3⟩ := bt_list t i b l h
    rw [List.length_cons] at hi hk
    obtain ⟨ho1, ho2⟩ := ho
    have ih := fun n' p' hp' hn' ho' => scan_loop a s t hsz l (i + 1) n' p' k h3 (by omega) (by omega) ho' hn' hp'
    have hb := b.toNat_lt
    have hw : wrap64 ((i : Int) + 1) = ((i + 1 : Nat) : Int) := by rw [wrapIn _ (by omega) (by omega)]; rfl
    have hwp : wrap64 ((p : Int) + 1) = ((p + 1 : Nat) : Int) := by rw [wrapIn _ (by omega) (by omega)]; rfl
    rw [scan, List.length_cons, show k + 1 - (l.length + 1) = k - l.length by omega, interlocutorlaw2_DecTexts.l0, if_pos (by clear hw hwp; omega), if_pos (by clear hw hwp; omega), h2, hw, hwp]
    clear hw hwp h2
    by_cases c46 : b.toNat = 46
    · have hd : isD b = false := by
        unfold isD
        rw [c46]
        rfl
      rw [hd] at ho1 ho2
      rw [if_pos (by omega), if_neg (by omega), c46, if_pos rfl, hd]
      exact ih n (p + 1) (by omega) hn ho2
    · rw [if_neg (by omega), if_neg c46]
      by_cases hd : isD b = true
      · rw [if_pos hd] at ho1 ho2
        have hd' := hd
        unfold isD at hd'
        simp only [Bool.and_eq_true, decide_eq_true_eq] at hd'
        rw [if_pos (by omega), if_pos (by omega), if_pos hd]
        rw [show ((b.toNat : Int) - 48) % 256 = ((b.toNat - 48 : Nat) : Int) by omega, wrapIn (10 * (n : Int)) (by omega) (by omega), wrapIn (10 * (n : Int) + _) (by omega) (by omega), show 10 * (n : Int) + ((b.toNat - 48 : Nat) : Int) = ((10 * n + (b.toNat - 48) : Nat) : Int) by omega]
        exact ih _ p (by omega) ho1 ho2
      · have hd2 : isD b = false := by simpa using hd
        rw [if_neg hd] at ho1 ho2
        rw [if_neg hd]
        unfold isD at hd2
        by_cases c1 : (b.toNat : Int) ≥ 48
        · rw [if_pos c1, if_neg (by
            intro c2
            simp only [Bool.and_eq_false_iff, decide_eq_false_iff_not] at hd2
            omega)]
          exact ih n p (by omega) hn ho2
        · rw [if_neg c1]
          exact ih n p (by omega) hn ho2
theorem txt_scan (B : List UInt8) (hB : B = [] ∨ B = [45]) (u s : Nat) (hu : u < 1000000000000000000) : scan (txt B u s) 0 0 = (u, if s = 0 then 0 else 1) ∧ okscan (txt B u s) 0 := by
  have hB1 : ∀ l, scan (B ++ l) 0 0 = scan l 0 0 := by
    intro l
    rcases hB with rfl | rfl
    · rfl
    · rfl
  have hB2 : ∀ l, okscan l 0 → okscan (B ++ l) 0 := by
    intro l hl
    rcases hB with rfl | rfl
    · exact hl
    · exact ⟨by decide, hl⟩
  unfold txt
  by_cases h : s = 0
  · rw [if_pos h, if_pos h, hB1]
    have h1 := scan_dgs (Lib.nDigits u) u 0 0 []
    have hm := Nat.mod_eq_of_lt (Lib.lt_pow_nDigits u)
    rw [List.append_nil, hm] at h1
    refine ⟨by rw [h1]; simp [scan], hB2 _ ?_⟩
    have h2 := okscan_dgs (Lib.nDigits u) u 0 [] (by rw [hm]; omega) trivial
    rw [List.append_nil] at h2
    exact h2
  · rw [if_neg h, if_neg h]
    have hm := Nat.mod_eq_of_lt (Lib.lt_pow_nDigits (u / 10 ^ s))
    have hd : u / 10 ^ s * 10 ^ s + u % 10 ^ s = u := by rw [Nat.mul_comm]; exact Nat.div_add_mod u (10 ^ s)
    have hle : u / 10 ^ s ≤ u := Nat.div_le_self _ _
    rw [List.append_assoc, List.append_assoc, hB1, scan_dgs, hm, Nat.zero_mul, Nat.zero_add]
    constructor
    · have h1 := scan_dgs s u (u / 10 ^ s) 1 []
      rw [List.append_nil, hd] at h1
      exact h1
    · refine hB2 _ (okscan_dgs _ _ _ _ (by rw [hm]; omega) ?_)
      rw [hm, Nat.zero_mul, Nat.zero_add]
      refine ⟨show u / 10 ^ s < _ by omega, ?_⟩
      have h2 := okscan_dgs s u (u / 10 ^ s) [] (by rw [hd]; exact hu) trivial
      rw [List.append_nil] at h2
      exact h2
theorem txt_size (B : List UInt8) (hB : B.length ≤ 1) (u s : Nat) (hu : u < 1000000000000000000) (hs : s ≤ 18) : (txt B u s).length < 60 := by
  have h1 := nDigits_le 17 u (by have : (10 : Nat) ^ (17 + 1) = 1000000000000000000 := by decide
                                 omega)
  have hle : u / 10 ^ s ≤ u := Nat.div_le_self _ _
  have h2 := nDigits_le 17 (u / 10 ^ s) (by have : (10 : Nat) ^ (17 + 1) = 1000000000000000000 := by decide
                                            omega)
  unfold txt
  split <;> simp only [List.length_append, dgs_length, List.length_cons, List.length_nil] <;> omega
theorem wrapNat (n : Nat) (h : n < 1000000000000000000) : wrap64 (n : Int) = (n : Int) := wrapIn _ (by omega) (by omega)
theorem rtext_ok (k : Nat) (hk : 200 ≤ k) (m : Int) (s : Nat) (hs : s ≤ 18) (h0 : -1000000000000000000 < m) (h1 : m < 1000000000000000000) : interlocutorref2_Text.f k m (s : Int) = some ⟨(txt (sgn m) m.natAbs s).toArray⟩ := by
  obtain ⟨k, rfl⟩ : ∃ j, k = j + 1 := ⟨k - 1, by omega⟩
  have key : ∀ (u : Nat) (B : List UInt8), B.length ≤ 1 → u < 1000000000000000000 → interlocutorref2_Text.j0 (k + 1) (u : Int) (s : Int) ⟨B.toArray⟩ = some ⟨(txt B u s).toArray⟩ := by
    intro u B hB hu
    have hT := rten_ok k s (by omega) hs
    have hp := pow_pos' s
    have hpn : 0 < 10 ^ s := Nat.pow_pos (by decide)
    have hc : ((10 : Int) ^ s) = ((10 ^ s : Nat) : Int) := by rw [Int.natCast_pow]; rfl
    have hle : u / 10 ^ s ≤ u := Nat.div_le_self _ _
    have hlt : u % 10 ^ s < 10 ^ s := Nat.mod_lt _ hpn
    have hle2 : u % 10 ^ s ≤ u := Nat.mod_le _ _
    have ed : wrap64 (Int.tdiv (u : Int) (10 ^ s)) = ((u / 10 ^ s : Nat) : Int) := by
      rw [hc, Int.tdiv_eq_ediv_of_nonneg (by omega), ← Int.natCast_ediv, wrapNat _ (Nat.lt_of_le_of_lt hle hu)]
    have em : Int.tmod (u : Int) (10 ^ s) = ((u % 10 ^ s : Nat) : Int) := by
      rw [hc, Int.tmod_eq_emod_of_nonneg (by omega), Int.natCast_emod]
    have hD1 := rdigits_ok k (u / 10 ^ s) 1 (by omega) (by omega) (by omega) (.inr rfl)
    rw [if_pos rfl] at hD1
    have hD2 := rdigits_ok k (u % 10 ^ s) s (by omega) hs (by omega) (.inl hlt)
    have hsz1 : (⟨(dgs (Lib.nDigits (u / 10 ^ s)) (u / 10 ^ s)).toArray⟩ : ByteArray).size = Lib.nDigits (u / 10 ^ s) := by
      show (dgs (Lib.nDigits (u / 10 ^ s)) (u / 10 ^ s)).toArray.size = _
      rw [List.size_toArray, dgs_length]
    have hszB : (⟨B.toArray⟩ : ByteArray).size = B.length := by
      show B.toArray.size = _
      rw [List.size_toArray]
    have hnd := nDigits_le 17 (u / 10 ^ s) (by have : (10 : Nat) ^ (17 + 1) = 1000000000000000000 := by decide
                                               omega)
    rw [interlocutorref2_Text.j0, hT, Option.bind_some, if_neg (by clear ed em; omega), ed, em, show (1 : Int) = ((1 : Nat) : Int) from rfl, hD1, Option.bind_some, ByteArray.size_append, hsz1, hszB, if_pos (by clear ed em; omega)]
    clear ed em hc
    unfold txt
    by_cases h : s = 0
    · subst h
      rw [if_neg (by decide), if_pos rfl]
      congr 1
      refine ext_ ?_
      rw [data_append]
      simp
    · have e4 : dgs (if s = 1 then Lib.nDigits (u % 10 ^ s) else max s 1) (u % 10 ^ s) = dgs s u := by
        have : (if s = 1 then Lib.nDigits (u % 10 ^ s) else max s 1) = s := by
          by_cases hs1 : s = 1
          · rw [if_pos hs1]
            subst hs1
            rw [Lib.nDigits_small (by simpa using hlt)]
          · rw [if_neg hs1]
            omega
        rw [this, dgs_mod]
      rw [e4] at hD2
      have hsz2 : (⟨(dgs s u).toArray⟩ : ByteArray).size = s := by
        show (dgs s u).toArray.size = _
        rw [List.size_toArray, dgs_length]
      rw [if_pos (by omega), if_neg h, if_pos (by omega), hD2, Option.bind_some, ByteArray.size_append, ByteArray.size_append, hsz1, hszB, hsz2, show (⟨#[46]⟩ : ByteArray).size = 1 from rfl, if_pos (by omega)]
      congr 1
  unfold interlocutorref2_Text.f sgn
  by_cases h : m < 0
  · rw [if_pos h, if_pos h, wrapIn _ (by omega) (by omega), show -m = ((m.natAbs : Nat) : Int) by omega]
    exact key m.natAbs [45] (by decide) (by omega)
  · rw [if_neg h, if_neg h]
    have e := key m.natAbs [] (by decide) (by omega)
    rw [show ((m.natAbs : Nat) : Int) = m by omega] at e
    exact e
theorem DecTexts : interlocutorlaw2_DecTexts.Pure := by
  intro a0 a1 w0 w1
  have g0 := i64_of_wf w0
  have g1 := i64_of_wf w1
  obtain ⟨k, hk⟩ : ∃ k : Nat, k = 2000 := ⟨_, rfl⟩
  refine ⟨k, ?_⟩
  obtain ⟨m, s, hM, hs, hm0, hm1⟩ := make_ok k (by omega) a0 a1 g0.1 g0.2 g1.1 g1.2
  have hB : sgn m = [] ∨ sgn m = [45] := by
    unfold sgn
    split
    · exact .inr rfl
    · exact .inl rfl
  have hBl : (sgn m).length ≤ 1 := by rcases hB with h | h <;> rw [h] <;> decide
  have hsc := txt_scan (sgn m) hB m.natAbs s (by omega)
  have hln := txt_size (sgn m) hBl m.natAbs s (by omega) hs
  have hR := fun k hk => rtext_ok k hk m s hs hm0 hm1
  unfold interlocutorlaw2_DecTexts.f
  rw [known_ok k (by omega), Option.bind_some, if_pos rfl, hM, Option.bind_some]
  dsimp only
  rw [text_ok m s hs hm0 hm1, Option.bind_some]
  obtain ⟨t, ht⟩ : ∃ t, t = txt (sgn m) m.natAbs s := ⟨_, rfl⟩
  rw [← ht] at hsc hln hR ⊢
  have hsz : (⟨t.toArray⟩ : ByteArray).size = t.length := by
    show t.toArray.size = _
    rw [List.size_toArray]
  have hL := scan_loop m (s : Int) ⟨t.toArray⟩ (by omega) t 0 0 0 k (by simp) (by rw [hsz]; omega) (by omega) hsc.2 (by decide) (by decide)
  rw [hsc.1] at hL
  have e0 : interlocutorlaw2_DecTexts.l0 k m (s : Int) ⟨t.toArray⟩ 0 0 0 = interlocutorlaw2_DecTexts.l0 k m (s : Int) ⟨t.toArray⟩ ((0 : Nat) : Int) ((0 : Nat) : Int) ((0 : Nat) : Int) := rfl
  rw [e0, hL]
  obtain ⟨j, hj⟩ : ∃ j, k - t.length = j + 1 := ⟨k - t.length - 1, by omega⟩
  rw [hj, interlocutorlaw2_DecTexts.l0, if_neg (by omega), hR j (by omega)]
  dsimp only
  have hp : ((((if s = 0 then 0 else 1 : Nat) : Int) == 1) == decide ((s : Int) > 0)) = true ∧ decide (((if s = 0 then 0 else 1 : Nat) : Int) ≤ 1) = true := by
    by_cases h : s = 0
    · subst h
      decide
    · rw [if_neg h, decide_eq_true (show (s : Int) > 0 by omega)]
      decide
  by_cases h : m < 0
  · rw [if_pos h, Option.bind_some, if_pos rfl, wrapIn _ (by omega) (by omega), if_pos (by omega), if_pos hp.1, hp.2]
  · rw [if_neg h, Option.bind_some, if_pos rfl, if_pos (by omega), if_pos hp.1, hp.2]
end Go.Proofs.YtjbihflpjkaifaaDoor.Pure
