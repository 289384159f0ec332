/- Codes: whose they are; the document's digits. In plain words. -/
import Derived.Test.YtlgndfplikhflaaDoorPlain10
import Derived.Test.YtlgndfplikhflaaDoorGx4
import Derived.Test.YtlgndfplikhflaaDoorGx14
namespace Go.Proofs.YtlgndfplikhflaaDoor.Plain
open Go.RowKit Go.Proofs.YtlgndfplikhflaaDoor.G Go.Proofs.YtlgndfplikhflaaDoorW.PrintWords Go.Proofs.YtlgndfplikhflaaDoorW.PrintLast Go.Proofs.YtlgndfplikhflaaDoorW.PrintMore
set_option linter.unusedVariables false
set_option linter.unusedSimpArgs false
theorem dd_small {u : Nat} (h : u < 10) : Lib.decDigits u = [UInt8.ofNat (48 + u)] := by rw [Lib.decDigits, dif_pos h]
theorem dd_step {u : Nat} (h : ¬ u < 10) : Lib.decDigits u = Lib.decDigits (u / 10) ++ [UInt8.ofNat (48 + u % 10)] := by rw [Lib.decDigits, dif_neg h]
theorem ofNat_dig {d : Nat} (h : d < 10) : (UInt8.ofNat (48 + d)).toNat = 48 + d := by
  rw [UInt8.toNat_ofNat']
  omega
def dval (l : List UInt8) : Nat := l.foldl (fun v b => 10 * v + (b.toNat - 48)) 0
theorem dval_snoc (l : List UInt8) (b : UInt8) : dval (l ++ [b]) = 10 * dval l + (b.toNat - 48) := by simp [dval]
theorem dval_dd : ∀ u : Nat, dval (Lib.decDigits u) = u := by
  intro u
  induction u using Nat.strongRecOn with
  | _ u ih =>
    by_cases h : u < 10
    · rw [dd_small h]
      show 10 * 0 + ((UInt8.ofNat (48 + u)).toNat - 48) = u
      rw [ofNat_dig h]
      omega
    · rw [dd_step h, dval_snoc, ih (u / 10) (by omega), ofNat_dig (by omega)]
      omega
theorem dd_high : ∀ u : Nat, ∀ b ∈ Lib.decDigits u, 48 ≤ b.toNat := by
  intro u
  induction u using Nat.strongRecOn with
  | _ u ih =>
    intro b hb
    by_cases h : u < 10
    · rw [dd_small h, List.mem_singleton] at hb
      rw [hb, ofNat_dig h]
      omega
    · rw [dd_step h, List.mem_append, List.mem_singleton] at hb
      rcases hb with hb | hb
      · exact ih (u / 10) (by omega) b hb
      · rw [hb, ofNat_dig (by omega)]
        omega
theorem dd_ne (u : Nat) : Lib.decDigits u ≠ [] := by
  by_cases h : u < 10
  · rw [dd_small h]; simp
  · rw [dd_step h]; simp
theorem itoa_cases (x : Int) : (∃ u : Nat, x = u ∧ Lib.itoa x = Lib.decDigits u) ∨ (∃ u : Nat, 1 ≤ u ∧ x = -(u : Int) ∧ Lib.itoa x = 45 :: Lib.decDigits u) := by
  rcases Int.lt_or_le x 0 with h | h
  · refine Or.inr ⟨x.natAbs, by omega, by omega, ?_⟩
    have e : x = -((x.natAbs : Nat) : Int) := by omega
    conv => lhs; rw [e]
    exact Lib.itoa_neg _ (by omega)
  · refine Or.inl ⟨x.toNat, by omega, ?_⟩
    have e : x = ((x.toNat : Nat) : Int) := by omega
    conv => lhs; rw [e]
    exact Lib.itoa_nonneg _
theorem itoa_comma (x : Int) : (44 : UInt8) ∉ Lib.itoa x := by
  intro hb
  rcases itoa_cases x with ⟨u, _, e⟩ | ⟨u, _, _, e⟩
  · rw [e] at hb
    have := dd_high u _ hb
    exact absurd this (by decide)
  · rw [e] at hb
    rcases List.mem_cons.1 hb with h | h
    · exact absurd h (by decide)
    · have := dd_high u _ h
      exact absurd this (by decide)
theorem dd_inj {u v : Nat} (h : Lib.decDigits u = Lib.decDigits v) : u = v := by rw [← dval_dd u, ← dval_dd v, h]
theorem dd_sign {u v : Nat} (h : Lib.decDigits u = 45 :: Lib.decDigits v) : False := by
  have := dd_high u 45 (by rw [h]; exact List.mem_cons_self)
  exact absurd this (by decide)
theorem itoa_inj {x y : Int} (h : Lib.itoa x = Lib.itoa y) : x = y := by
  rcases itoa_cases x with ⟨u, e1, e2⟩ | ⟨u, _, e1, e2⟩ <;> rcases itoa_cases y with ⟨v, f1, f2⟩ | ⟨v, _, f1, f2⟩
  · rw [e2, f2] at h
    rw [e1, f1, dd_inj h]
  · rw [e2, f2] at h
    exact (dd_sign h).elim
  · rw [e2, f2] at h
    exact (dd_sign h.symm).elim
  · rw [e2, f2] at h
    rw [e1, f1, dd_inj (List.cons.inj h).2]
theorem split_comma : ∀ (p q r s : List UInt8), (44 : UInt8) ∉ p → (44 : UInt8) ∉ q → (r = [] ∨ ∃ t, r = 44 :: t) → (s = [] ∨ ∃ t, s = 44 :: t) → p ++ r = q ++ s → p = q ∧ r = s
  | [], [], r, s, _, _, _, _, h => ⟨rfl, h⟩
  | [], c :: q, r, s, _, hq, hr, _, h => by
    rcases hr with hr | ⟨t, hr⟩
    · rw [hr] at h; simp at h
    · rw [hr] at h
      simp only [List.nil_append, List.cons_append, List.cons.injEq] at h
      exact absurd (h.1 ▸ List.mem_cons_self) hq
  | a :: p, [], r, s, hp, _, _, hs, h => by
    rcases hs with hs | ⟨t, hs⟩
    · rw [hs] at h; simp at h
    · rw [hs] at h
      simp only [List.nil_append, List.cons_append, List.cons.injEq] at h
      exact absurd (h.1 ▸ List.mem_cons_self) hp
  | a :: p, c :: q, r, s, hp, hq, hr, hs, h => by
    simp only [List.cons_append, List.cons.injEq] at h
    have := split_comma p q r s (fun hx => hp (List.mem_cons_of_mem _ hx)) (fun hx => hq (List.mem_cons_of_mem _ hx)) hr hs h.2
    exact ⟨by rw [h.1, this.1], this.2⟩
def tl (l : List Int) : List UInt8 := l.flatMap fun x => 44 :: Lib.itoa x
theorem tl_head (l : List Int) : tl l = [] ∨ ∃ t, tl l = 44 :: t := by
  cases l with
  | nil => exact Or.inl rfl
  | cons x l => exact Or.inr ⟨Lib.itoa x ++ tl l, by simp [tl]⟩
theorem tl_inj : ∀ l m : List Int, tl l = tl m → l = m
  | [], [], _ => rfl
  | [], y :: m, h => by simp [tl] at h
  | x :: l, [], h => by simp [tl] at h
  | x :: l, y :: m, h => by
    have h1 : Lib.itoa x ++ tl l = Lib.itoa y ++ tl m := by simpa [tl] using h
    have h2 := split_comma _ _ _ _ (itoa_comma x) (itoa_comma y) (tl_head l) (tl_head m) h1
    rw [itoa_inj h2.1, tl_inj l m h2.2]
theorem code_inj (a b : Int) (l m : List Int) : codeBytes a l = codeBytes b m ↔ (a, l) = (b, m) := by
  constructor
  · intro h
    have h2 := split_comma _ _ _ _ (itoa_comma a) (itoa_comma b) (tl_head l) (tl_head m) h
    rw [itoa_inj h2.1, tl_inj l m h2.2]
  · intro h
    simp only [Prod.mk.injEq] at h
    rw [h.1, h.2]
/-! ### the document's digits -/
theorem str_one (d : Nat) (h : d < 10) : strOfNums [((48 + d : Nat) : Int)] = ⟨[UInt8.ofNat (48 + d)].toArray⟩ := by
  unfold strOfNums
  congr 2
theorem ap_assoc (d : UInt8) (l : List UInt8) (x : ByteArray) : (⟨l.toArray⟩ : ByteArray) ++ ((⟨[d].toArray⟩ : ByteArray) ++ x) = (⟨(l ++ [d]).toArray⟩ : ByteArray) ++ x := by
  rw [← ByteArray.append_assoc]
  congr 1
theorem toList_nil_ {x : ByteArray} : x.toList = [] ↔ x.size = 0 := by
  have h : x.toList = x.data.toList := ByteArray.toList_eq x
  rw [h]
  cases x with
  | mk d =>
    show d.toList = [] ↔ d.size = 0
    rw [← Array.length_toList, List.length_eq_zero_iff]
theorem digits_loop (neg : Bool) : ∀ (n u : Nat), 0 < u → u < 10 ^ n → u ≤ 9223372036854775808 → (neg = false → u ≤ 9223372036854775807) → ∀ (x : ByteArray) (low : Bool), x.size + n ≤ 100 →
    ∃ j, ∀ k, interlocutorref10_digits.l0 (k + j) (if neg then -(u : Int) else (u : Int)) x low = interlocutorref10_digits.l0 k 0 ((⟨(Lib.decDigits u).toArray⟩ : ByteArray) ++ x) low := by
  intro n
  induction n with
  | zero => intro u h0 h1; simp at h1; omega
  | succ n ih =>
    intro u h0 h1 h2 h3 x low hx
    have hs1 : (⟨[UInt8.ofNat (48 + u % 10)].toArray⟩ : ByteArray).size = 1 := rfl
    have step : ∀ k, interlocutorref10_digits.l0 (k + 2) (if neg then -(u : Int) else (u : Int)) x low = interlocutorref10_digits.l0 k (if neg then -((u / 10 : Nat) : Int) else ((u / 10 : Nat) : Int)) ((⟨[UInt8.ofNat (48 + u % 10)].toArray⟩ : ByteArray) ++ x) low := by
      intro k
      have hne : (if neg then -(u : Int) else (u : Int)) ≠ 0 := by split <;> omega
      simp only [interlocutorref10_digits.l0, interlocutorref10_digits.j1, if_neg hne, if_true]
      cases neg with
      | false =>
        have e1 : Int.tmod ((u : Nat) : Int) 10 = ((u % 10 : Nat) : Int) := by rw [Int.tmod_eq_emod_of_nonneg (by omega)]; omega
        have e2 : Int.tdiv ((u : Nat) : Int) 10 = ((u / 10 : Nat) : Int) := by rw [Int.tdiv_eq_ediv_of_nonneg (by omega)]; omega
        have h4 := h3 rfl
        have e3 : wrap64 (48 + ((u % 10 : Nat) : Int)) % 256 = ((48 + u % 10 : Nat) : Int) := by unfold wrap64; omega
        have e4 : wrap64 ((u / 10 : Nat) : Int) = ((u / 10 : Nat) : Int) := by unfold wrap64; omega
        simp only [Bool.false_eq_true, if_false]
        rw [e1, if_neg (by omega), e3, Option.bind_some, str_one _ (by omega), hs1, if_pos (by omega), e2, e4]
      | true =>
        have e1 : Int.tmod (-((u : Nat) : Int)) 10 = -((u % 10 : Nat) : Int) := by rw [Int.neg_tmod, Int.tmod_eq_emod_of_nonneg (by omega)]; omega
        have e2 : Int.tdiv (-((u : Nat) : Int)) 10 = -((u / 10 : Nat) : Int) := by rw [Int.neg_tdiv, Int.tdiv_eq_ediv_of_nonneg (by omega)]; omega
        have e4 : wrap64 (-((u / 10 : Nat) : Int)) = -((u / 10 : Nat) : Int) := by unfold wrap64; omega
        simp only [if_true]
        rw [e1, e2, e4]
        by_cases hz : u % 10 = 0
        · have e3 : wrap64 (48 + -((u % 10 : Nat) : Int)) % 256 = ((48 + u % 10 : Nat) : Int) := by unfold wrap64; omega
          rw [if_neg (by omega), e3, Option.bind_some, str_one _ (by omega), hs1, if_pos (by omega)]
        · have e3 : wrap64 (48 + wrap64 (- -((u % 10 : Nat) : Int))) % 256 = ((48 + u % 10 : Nat) : Int) := by unfold wrap64; omega
          rw [if_pos (by omega), e3, Option.bind_some, str_one _ (by omega), hs1, if_pos (by omega)]
    by_cases h : u < 10
    · refine ⟨2, fun k => ?_⟩
      rw [step k, dd_small h, show u / 10 = 0 by omega, show u % 10 = u by omega]
      congr 1
      split <;> rfl
    · obtain ⟨j, hj⟩ := ih (u / 10) (by omega) (by rw [Nat.pow_succ] at h1; omega) (by omega) (fun e => by have := h3 e; omega) ((⟨[UInt8.ofNat (48 + u % 10)].toArray⟩ : ByteArray) ++ x) low (by rw [ByteArray.size_append, hs1]; omega)
      refine ⟨j + 2, fun k => ?_⟩
      rw [show k + (j + 2) = (k + j) + 2 by omega, step (k + j), hj k, ap_assoc, ← dd_step h]
theorem digits_end (k : Nat) (x : ByteArray) (h : x.size ≠ 0) (hx : x.size ≤ 1000) (low : Bool) : interlocutorref10_digits.l0 (k + 2) 0 x low = some (if low then (⟨#[45]⟩ : ByteArray) ++ x else x) := by
  have e : (x.toList == ([] : List UInt8)) = false := by
    rw [Bool.eq_false_iff]
    intro hc
    exact h (toList_nil_.1 (beq_iff_eq.1 hc))
  simp only [interlocutorref10_digits.l0, interlocutorref10_digits.j1, e, if_true, Bool.false_eq_true, if_false]
  cases low with
  | true => rw [if_pos rfl, if_pos (by omega), if_pos rfl]
  | false => simp
theorem digits_ok (a : Int) (h0 : -9223372036854775808 ≤ a) (h1 : a ≤ 9223372036854775807) : ∃ j, ∀ k, j ≤ k → interlocutorref10_digits.f k a = some ⟨(Lib.itoa a).toArray⟩ := by
  have mono : ∀ r j, interlocutorref10_digits.f j a = some r → ∀ k, j ≤ k → interlocutorref10_digits.f k a = some r := by
    intro r j hj k hk
    induction hk with
    | refl => exact hj
    | step _ ih => exact interlocutorref10_digits.mono _ _ _ ih
  have emp : ∀ l : List UInt8, (⟨l.toArray⟩ : ByteArray) ++ (⟨#[]⟩ : ByteArray) = ⟨l.toArray⟩ := fun l => by apply ByteArray.ext; simp
  have sz : ∀ u : Nat, u ≤ 9223372036854775808 → (⟨(Lib.decDigits u).toArray⟩ : ByteArray).size ≠ 0 ∧ (⟨(Lib.decDigits u).toArray⟩ : ByteArray).size ≤ 1000 := by
    intro u hu
    have h1 : (⟨(Lib.decDigits u).toArray⟩ : ByteArray).size = (Lib.decDigits u).length := by show (Lib.decDigits u).toArray.size = _; rw [List.size_toArray]
    have h2 := Lib.nDigits_le20 u (by omega)
    rw [h1]
    refine ⟨fun h => dd_ne u (List.length_eq_zero_iff.1 h), ?_⟩
    rw [Lib.decDigits_length]
    omega
  rcases itoa_cases a with ⟨u, e1, e2⟩ | ⟨u, hu, e1, e2⟩
  · rcases Nat.eq_zero_or_pos u with hz | hz
    · subst hz
      obtain rfl : a = 0 := by omega
      refine ⟨4, mono _ _ ?_⟩
      rw [e2]
      unfold interlocutorref10_digits.f
      have e : ((⟨#[]⟩ : ByteArray).toList == ([] : List UInt8)) = true := beq_iff_eq.2 (toList_nil_.2 rfl)
      have w1 : wrap64 (48 + Int.tmod 0 10) % 256 = ((48 + 0 : Nat) : Int) := by rw [Int.zero_tmod]; unfold wrap64; omega
      have w2 : wrap64 (Int.tdiv 0 10) = 0 := by rw [Int.zero_tdiv]; unfold wrap64; omega
      have h4 := digits_end 0 ((⟨[UInt8.ofNat (48 + 0)].toArray⟩ : ByteArray) ++ (⟨#[]⟩ : ByteArray)) (by decide) (by decide) false
      have e5 : interlocutorref10_digits.l0 4 0 (⟨#[]⟩ : ByteArray) (decide ((0 : Int) < 0)) = interlocutorref10_digits.l0 2 0 ((⟨[UInt8.ofNat (48 + 0)].toArray⟩ : ByteArray) ++ (⟨#[]⟩ : ByteArray)) false := by
        rw [interlocutorref10_digits.l0, if_pos rfl, e, interlocutorref10_digits.j1, if_pos rfl, if_neg (by rw [Int.zero_tmod]; decide), w1, Option.bind_some, str_one 0 (by decide), if_pos (by decide), w2]
        rfl
      rw [e5, h4, dd_small (by decide), emp]
      rfl
    · obtain ⟨j, hj⟩ := digits_loop false 20 u hz (by omega) (by omega) (fun _ => by omega) ⟨#[]⟩ false (by decide)
      refine ⟨2 + j, mono _ _ ?_⟩
      have s := sz u (by omega)
      unfold interlocutorref10_digits.f
      rw [e2, e1, show decide ((u : Int) < 0) = false from decide_eq_false (by omega)]
      have h4 := hj 2
      simp only [Bool.false_eq_true, if_false] at h4
      rw [h4, emp, show (2 : Nat) = 0 + 2 from rfl, digits_end 0 _ s.1 s.2]
      rfl
  · obtain ⟨j, hj⟩ := digits_loop true 20 u hu (by omega) (by omega) (fun h => by cases h) ⟨#[]⟩ true (by decide)
    refine ⟨2 + j, mono _ _ ?_⟩
    have s := sz u (by omega)
    unfold interlocutorref10_digits.f
    rw [e2, e1, show decide (-(u : Int) < 0) = true from decide_eq_true (by omega)]
    have h4 := hj 2
    simp only [if_true] at h4
    rw [h4, emp, show (2 : Nat) = 0 + 2 from rfl, digits_end 0 _ s.1 s.2, if_pos rfl]
    congr 1
end Go.Proofs.YtlgndfplikhflaaDoor.Plain
