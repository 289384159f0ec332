/- Codes: whose they are (plain Lean, no program in sight). -/
import Derived.Lib.ItoaLen
set_option linter.unusedVariables false
set_option linter.unusedSimpArgs false
namespace Go.Proofs.YtlgndfplikhflaaDoorW.Rkc
open Go
theorem dd_small {u : Nat} (h : u < 10) : Lib.decDigits u = [UInt8.ofNat (48 + u)] := by rw [Lib.decDigits, dif_pos h]
theorem dd_step {u : Nat} (h : ¬ u < 10) : Lib.decDigits u = Lib.decDigits (u / 10) ++ [UInt8.ofNat (48 + u % 10)] := by rw [Lib.decDigits, dif_neg h]
theorem ofNat_dig {d : Nat} (h : d < 10) : (UInt8.ofNat (48 + d)).toNat = 48 + d := by
  rw [UInt8.toNat_ofNat']
  omega
def dval (l : List UInt8) : Nat := l.foldl (fun v b => 10 * v + (b.toNat - 48)) 0
theorem dval_snoc (l : List UInt8) (b : UInt8) : dval (l ++ [b]) = 10 * dval l + (b.toNat - 48) := by simp [dval]
theorem dval_dd : ∀ u : Nat, dval (Lib.decDigits u) = u := by
  intro u
  induction u using Nat.strongRecOn with
  | _ u ih =>
    by_cases h : u < 10
    · rw [dd_small h]
      show 10 * 0 + ((UInt8.ofNat (48 + u)).toNat - 48) = u
      rw [ofNat_dig h]
      omega
    · rw [dd_step h, dval_snoc, ih (u / 10) (by omega), ofNat_dig (by omega)]
      omega
theorem dd_high : ∀ u : Nat, ∀ b ∈ Lib.decDigits u, 48 ≤ b.toNat := by
  intro u
  induction u using Nat.strongRecOn with
  | _ u ih =>
    intro b hb
    by_cases h : u < 10
    · rw [dd_small h, List.mem_singleton] at hb
      rw [hb, ofNat_dig h]
      omega
    · rw [dd_step h, List.mem_append, List.mem_singleton] at hb
      rcases hb with hb | hb
      · exact ih (u / 10) (by omega) b hb
      · rw [hb, ofNat_dig (by omega)]
        omega
theorem itoa_cases (x : Int) : (∃ u : Nat, x = u ∧ Lib.itoa x = Lib.decDigits u) ∨ (∃ u : Nat, 1 ≤ u ∧ x = -(u : Int) ∧ Lib.itoa x = 45 :: Lib.decDigits u) := by
  rcases Int.lt_or_le x 0 with h | h
  · refine Or.inr ⟨x.natAbs, by omega, by omega, ?_⟩
    have e : x = -((x.natAbs : Nat) : Int) := by omega
    conv => lhs; rw [e]
    exact Lib.itoa_neg _ (by omega)
  · refine Or.inl ⟨x.toNat, by omega, ?_⟩
    have e : x = ((x.toNat : Nat) : Int) := by omega
    conv => lhs; rw [e]
    exact Lib.itoa_nonneg _
theorem itoa_comma (x : Int) : (44 : UInt8) ∉ Lib.itoa x := by
  intro hb
  rcases itoa_cases x with ⟨u, _, e⟩ | ⟨u, _, _, e⟩
  · rw [e] at hb
    have := dd_high u _ hb
    exact absurd this (by decide)
  · rw [e] at hb
    rcases List.mem_cons.1 hb with h | h
    · exact absurd h (by decide)
    · have := dd_high u _ h
      exact absurd this (by decide)
theorem dd_inj {u v : Nat} (h : Lib.decDigits u = Lib.decDigits v) : u = v := by rw [← dval_dd u, ← dval_dd v, h]
theorem dd_sign {u v : Nat} (h : Lib.decDigits u = 45 :: Lib.decDigits v) : False := by
  have := dd_high u 45 (by rw [h]; exact List.mem_cons_self)
  exact absurd this (by decide)
theorem itoa_inj {x y : Int} (h : Lib.itoa x = Lib.itoa y) : x = y := by
  rcases itoa_cases x with ⟨u, e1, e2⟩ | ⟨u, _, e1, e2⟩ <;> rcases itoa_cases y with ⟨v, f1, f2⟩ | ⟨v, _, f1, f2⟩
  · rw [e2, f2] at h
    rw [e1, f1, dd_inj h]
  · rw [e2, f2] at h
    exact (dd_sign h).elim
  · rw [e2, f2] at h
    exact (dd_sign h.symm).elim
  · rw [e2, f2] at h
    rw [e1, f1, dd_inj (List.cons.inj h).2]
theorem split_comma : ∀ (p q r s : List UInt8), (44 : UInt8) ∉ p → (44 : UInt8) ∉ q → (r = [] ∨ ∃ t, r = 44 :: t) → (s = [] ∨ ∃ t, s = 44 :: t) → p ++ r = q ++ s → p = q ∧ r = s
  | [], [], r, s, _, _, _, _, h => ⟨rfl, h⟩
  | [], c :: q, r, s, _, hq, hr, _, h => by
    rcases hr with hr | ⟨t, hr⟩
    · rw [hr] at h; simp at h
    · rw [hr] at h
      simp only [List.nil_append, List.cons_append, List.cons.injEq] at h
      exact absurd (h.1 ▸ List.mem_cons_self) hq
  | a :: p, [], r, s, hp, _, _, hs, h => by
    rcases hs with hs | ⟨t, hs⟩
    · rw [hs] at h; simp at h
    · rw [hs] at h
      simp only [List.nil_append, List.cons_append, List.cons.injEq] at h
      exact absurd (h.1 ▸ List.mem_cons_self) hp
  | a :: p, c :: q, r, s, hp, hq, hr, hs, h => by
    simp only [List.cons_append, List.cons.injEq] at h
    have := split_comma p q r s (fun hx => hp (List.mem_cons_of_mem _ hx)) (fun hx => hq (List.mem_cons_of_mem _ hx)) hr hs h.2
    exact ⟨by rw [h.1, this.1], this.2⟩
def tl (l : List Int) : List UInt8 := l.flatMap fun x => 44 :: Lib.itoa x
theorem tl_head (l : List Int) : tl l = [] ∨ ∃ t, tl l = 44 :: t := by
  cases l with
  | nil => exact Or.inl rfl
  | cons x l => exact Or.inr ⟨Lib.itoa x ++ tl l, by simp [tl]⟩
theorem tl_inj : ∀ l m : List Int, tl l = tl m → l = m
  | [], [], _ => rfl
  | [], y :: m, h => by simp [tl] at h
  | x :: l, [], h => by simp [tl] at h
  | x :: l, y :: m, h => by
    have h1 : Lib.itoa x ++ tl l = Lib.itoa y ++ tl m := by simpa [tl] using h
    have h2 := split_comma _ _ _ _ (itoa_comma x) (itoa_comma y) (tl_head l) (tl_head m) h1
    rw [itoa_inj h2.1, tl_inj l m h2.2]
/-- A value's code. -/
def codeV (a : Int) (l : List Int) : List UInt8 := Lib.itoa a ++ l.flatMap fun x => 44 :: Lib.itoa x
theorem code_inj (a b : Int) (l m : List Int) : codeV a l = codeV b m ↔ (a, l) = (b, m) := by
  constructor
  · intro h
    have h2 := split_comma _ _ _ _ (itoa_comma a) (itoa_comma b) (tl_head l) (tl_head m) h
    rw [itoa_inj h2.1, tl_inj l m h2.2]
  · intro h
    simp only [Prod.mk.injEq] at h
    rw [h.1, h.2]
/-! ### the document's digits -/
end Go.Proofs.YtlgndfplikhflaaDoorW.Rkc
