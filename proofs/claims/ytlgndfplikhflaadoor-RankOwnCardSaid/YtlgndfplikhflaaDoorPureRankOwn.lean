import Derived.Test.YtlgndfplikhflaaDoorGx3
import Derived.Test.YtlgndfplikhflaaDoorGx12
import Derived.Test.YtlgndfplikhflaaDoorGx15
import Derived.Test.YtlgndfplikhflaaDoorGx14
import Derived.Test.YtlgndfplikhflaaDoorGx16
import Derived.Test.YtlgndfplikhflaaDoorGx17
namespace Go.Proofs.YtlgndfplikhflaaDoor.Plain
open Go.RowKit Go.Proofs.YtlgndfplikhflaaDoor.G Go.Proofs.YtlgndfplikhflaaDoorW.PrintWords Go.Proofs.YtlgndfplikhflaaDoorW.PrintLast Go.Proofs.YtlgndfplikhflaaDoorW.PrintMore
set_option linter.unusedVariables false
set_option linter.unusedSimpArgs false
theorem within_ok (a n : Int) (hn : 0 < n) (hn2 : n ≤ 4611686018427387904) : ∃ r, interlocutorlaw10_within.f a n = some r ∧ 0 ≤ r ∧ r < n := by
  unfold interlocutorlaw10_within.f
  rw [if_neg (by omega)]
  have h1 : Int.tmod a n < n := Int.tmod_lt_of_pos a hn
  have h2 : -n < Int.tmod a n := by
    have := Int.tmod_lt_of_pos (-a) hn
    rw [Int.neg_tmod] at this
    omega
  by_cases h : Int.tmod a n < 0
  · rw [if_pos h]
    refine ⟨_, rfl, ?_⟩
    have hw : wrap64 (Int.tmod a n + n) = Int.tmod a n + n := by
      generalize Int.tmod a n = t at *
      unfold wrap64
      omega
    rw [hw]
    generalize Int.tmod a n = t at *
    omega
  · rw [if_neg h]
    exact ⟨_, rfl, by omega, h1⟩
theorem at_drop (l : List Int) (i : Nat) (h : i < l.length) : l.drop i = rd l i :: l.drop (i + 1) := by
  rw [List.drop_eq_getElem_cons h]
  congr 1
  unfold rd
  rw [Int.toNat_natCast, List.getD_eq_getElem?_getD, List.getElem?_eq_getElem h]
  rfl
end Go.Proofs.YtlgndfplikhflaaDoor.Plain

namespace Go.Proofs.YtlgndfplikhflaaDoor.Plain
open Go.RowKit Go.Proofs.YtlgndfplikhflaaDoor.G Go.Proofs.YtlgndfplikhflaaDoorW.PrintWords Go.Proofs.YtlgndfplikhflaaDoorW.PrintLast Go.Proofs.YtlgndfplikhflaaDoorW.PrintMore
set_option linter.unusedVariables false
set_option linter.unusedSimpArgs false
theorem order_eq (a b : Int) : interlocutorref10_order.f a b = some (cmpI a b) := by
  unfold interlocutorref10_order.f cmpI
  repeat' split
  all_goals rfl
theorem refCmp_loop (a b : Int) (l m : List Int) (he : l.length = m.length) (hl : l.length ≤ 1000000) : ∀ (n i : Nat), i + n = l.length → ∀ k, n + 1 ≤ k → interlocutorref10_Cmp.l0 k (i : Int) a l b m = some (cmpL (l.drop i) (m.drop i)) := by
  intro n
  induction n with
  | zero =>
    intro i hi k hk
    obtain ⟨k, rfl⟩ : ∃ j, k = j + 1 := ⟨k - 1, by omega⟩
    simp only [interlocutorref10_Cmp.l0]
    rw [if_neg (by omega), List.drop_of_length_le (by omega), List.drop_of_length_le (by omega)]
    rfl
  | succ n ih =>
    intro i hi k hk
    obtain ⟨k, rfl⟩ : ∃ j, k = j + 1 := ⟨k - 1, by omega⟩
    simp only [interlocutorref10_Cmp.l0]
    have hw : wrap64 ((i : Int) + 1) = ((i + 1 : Nat) : Int) := by unfold wrap64; omega
    rw [if_pos (by omega), if_pos (by omega), if_pos (by omega), order_eq, Option.bind_some, at_drop l i (by omega), at_drop m i (by omega), hw]
    simp only [cmpL, or2]
    by_cases h : cmpI (rd l i) (rd m i) = 0
    · rw [if_pos h, if_pos h]
      exact ih (i + 1) (by omega) k (by omega)
    · rw [if_neg h, if_neg h]
theorem refCmp_eq (a b : Int) (l m : List Int) (hl : l.length ≤ 1000000) (k : Nat) (hk : l.length + 1 ≤ k) : interlocutorref10_Cmp.f k a l b m = some (cmpV (a, l) (b, m)) := by
  unfold interlocutorref10_Cmp.f
  rw [order_eq, Option.bind_some, order_eq]
  simp only [cmpV, or2]
  by_cases h1 : cmpI a b = 0
  · rw [if_pos h1, if_pos h1, Option.bind_some]
    by_cases h2 : cmpI (l.length : Int) (m.length : Int) = 0
    · rw [if_pos h2, if_pos h2]
      have he := (cmpI_zero _ _).1 h2
      exact refCmp_loop a b l m (by omega) hl l.length 0 (by omega) k hk
    · rw [if_neg h2, if_neg h2]
  · rw [if_neg h1, if_neg h1]
end Go.Proofs.YtlgndfplikhflaaDoor.Plain

namespace Go.Proofs.YtlgndfplikhflaaDoor.Plain
open Go.RowKit Go.Proofs.YtlgndfplikhflaaDoor.G Go.Proofs.YtlgndfplikhflaaDoorW.PrintWords Go.Proofs.YtlgndfplikhflaaDoorW.PrintLast Go.Proofs.YtlgndfplikhflaaDoorW.PrintMore
set_option linter.unusedVariables false
set_option linter.unusedSimpArgs false
def inR (x : Int) : Prop := -9223372036854775808 ≤ x ∧ x ≤ 9223372036854775807
theorem wrap_in (n : Int) : inR (wrap64 n) := by unfold wrap64 inR; omega
theorem within8 (a n : Int) (hn : 0 < n) (hn2 : n ≤ 4611686018427387904) : ∃ r, interlocutorlaw8_within.f a n = some r ∧ 0 ≤ r ∧ r < n := within_ok a n hn hn2
theorem within1 (a n : Int) (hn : 0 < n) (hn2 : n ≤ 4611686018427387904) : ∃ r, interlocutorlaw1_within.f a n = some r ∧ 0 ≤ r ∧ r < n := within_ok a n hn hn2
theorem within2 (a n : Int) (hn : 0 < n) (hn2 : n ≤ 4611686018427387904) : ∃ r, interlocutorlaw2_within.f a n = some r ∧ 0 ≤ r ∧ r < n := within_ok a n hn hn2
theorem small_in {r n : Int} (h0 : 0 ≤ r) (h1 : r < n) (hn : n ≤ 4611686018427387904) : inR r := by unfold inR; omega
theorem tmod_in (a n : Int) (hn : 0 < n) (hn2 : n ≤ 4611686018427387904) : inR (Int.tmod a n) := by
  have h1 : Int.tmod a n < n := Int.tmod_lt_of_pos a hn
  have h2 : -n < Int.tmod a n := by
    have := Int.tmod_lt_of_pos (-a) hn
    rw [Int.neg_tmod] at this
    omega
  generalize Int.tmod a n = t at *
  unfold inR
  omega
theorem leap_ok (y : Int) : ∃ b, interlocutorref1_Leap.f y = some b := by
  unfold interlocutorref1_Leap.f
  repeat' split
  all_goals exact ⟨_, rfl⟩
theorem length_ok (y m : Int) : ∃ L, interlocutorref1_Length.f y m = some L ∧ 0 < L ∧ L ≤ 31 := by
  obtain ⟨b, hb⟩ := leap_ok y
  unfold interlocutorref1_Length.f
  rw [hb, Option.bind_some]
  cases b <;> repeat' split
  all_goals exact ⟨_, rfl, by decide, by decide⟩
theorem day_ok (a : Int) : ∃ y m d, interlocutorlaw1_Day.f a false = some (y, m, d) ∧ inR y ∧ inR m ∧ inR d := by
  obtain ⟨t1, h1, _, _⟩ := within1 (wrap64 (Int.tdiv a 400)) 9999 (by decide) (by decide)
  obtain ⟨t2, h2, _, _⟩ := within1 a 12 (by decide) (by decide)
  obtain ⟨L, hL, hL0, hL1⟩ := length_ok (wrap64 (1 + t1)) (wrap64 (1 + t2))
  obtain ⟨t3, h3, _, _⟩ := within1 (wrap64 (Int.tdiv a 12)) L hL0 (by omega)
  refine ⟨_, _, _, ?_, wrap_in (1 + t1), wrap_in (1 + t2), wrap_in (1 + t3)⟩
  unfold interlocutorlaw1_Day.f
  rw [h1, Option.bind_some, if_neg (by decide), h2, Option.bind_some, hL, Option.bind_some, h3, Option.bind_some]
theorem floor_ok (a : Int) : ∃ r, interlocutorref1_floor.f a 400 = some r := by
  unfold interlocutorref1_floor.f
  rw [if_neg (by decide)]
  split <;> exact ⟨_, rfl⟩
theorem days_ok (y m d : Int) : ∃ r, interlocutorref1_Days.f y m d = some r := by
  unfold interlocutorref1_Days.f
  split
  · obtain ⟨r, hr⟩ := floor_ok (wrap64 (y - 1))
    rw [hr, Option.bind_some]
    exact ⟨_, rfl⟩
  · obtain ⟨r, hr⟩ := floor_ok y
    rw [hr, Option.bind_some]
    exact ⟨_, rfl⟩
theorem make_ok (a b : Int) : ∃ p s, (∀ k, 1 ≤ k → interlocutorlaw2_Make.f k a b = some (p, s)) ∧ inR p ∧ 0 ≤ s ∧ s < 19 := by
  obtain ⟨t1, h1, _, _⟩ := within2 b 7 (by decide) (by decide)
  obtain ⟨t2, h2, _, _⟩ := within2 b 11 (by decide) (by decide)
  obtain ⟨t3, h3, h30, h31⟩ := within2 (wrap64 (Int.tdiv b 7)) 19 (by decide) (by decide)
  obtain ⟨t4, h4, _, _⟩ := within2 a 2000 (by decide) (by decide)
  have j : ∀ x, inR x → ∃ p s, (∀ k, 1 ≤ k → interlocutorlaw2_Make.j0 k b x = some (p, s)) ∧ inR p ∧ 0 ≤ s ∧ s < 19 := by
    intro x hx
    by_cases hz : t2 = 0
    · refine ⟨_, t3, fun k hk => ?_, wrap_in (wrap64 (Int.tdiv x 1000000) * 1000000), h30, h31⟩
      obtain ⟨k, rfl⟩ : ∃ j, k = j + 1 := ⟨k - 1, by omega⟩
      rw [interlocutorlaw2_Make.j0, h2, Option.bind_some, if_pos hz, h3, Option.bind_some]
    · refine ⟨x, t3, fun k hk => ?_, hx, h30, h31⟩
      obtain ⟨k, rfl⟩ : ∃ j, k = j + 1 := ⟨k - 1, by omega⟩
      rw [interlocutorlaw2_Make.j0, h2, Option.bind_some, if_neg hz, h3, Option.bind_some]
  by_cases hz : t1 = 0
  · obtain ⟨p, s, hp, r⟩ := j (wrap64 (t4 - 1000)) (wrap_in _)
    refine ⟨p, s, fun k hk => ?_, r⟩
    unfold interlocutorlaw2_Make.f
    rw [h1, Option.bind_some, if_pos hz, h4, Option.bind_some]
    exact hp k hk
  · obtain ⟨p, s, hp, r⟩ := j (Int.tmod a 1000000000000000000) (tmod_in _ _ (by decide) (by decide))
    refine ⟨p, s, fun k hk => ?_, r⟩
    unfold interlocutorlaw2_Make.f
    rw [h1, Option.bind_some, if_neg hz]
    exact hp k hk
theorem strip_ok (q : Int) (F0 : List Int) : ∀ n : Nat, n ≤ 19 → ∀ p, inR p → ∃ F, (∀ k, n + 1 ≤ k → interlocutorlaw8_Value.l0 k p (n : Int) q F0 = some (q, F)) ∧ (∀ x ∈ F, inR x) ∧ F.length ≤ 20 := by
  intro n
  induction n with
  | zero =>
    intro _ p hp
    refine ⟨[p, 0], fun k hk => ?_, ?_, by simp⟩
    · obtain ⟨k, rfl⟩ : ∃ j, k = j + 1 := ⟨k - 1, by omega⟩
      rw [interlocutorlaw8_Value.l0, if_neg (by omega)]
      rfl
    · intro x hx
      simp only [List.mem_cons, List.not_mem_nil, or_false] at hx
      rcases hx with rfl | rfl
      · exact hp
      · unfold inR; omega
  | succ n ih =>
    intro hn p hp
    by_cases hz : Int.tmod p 10 = 0
    · obtain ⟨F, hF, h1, h2⟩ := ih (by omega) (wrap64 (Int.tdiv p 10)) (wrap_in _)
      refine ⟨F, fun k hk => ?_, h1, h2⟩
      obtain ⟨k, rfl⟩ : ∃ j, k = j + 1 := ⟨k - 1, by omega⟩
      have e : wrap64 (((n + 1 : Nat) : Int) - 1) = (n : Int) := by unfold wrap64; omega
      rw [interlocutorlaw8_Value.l0, if_pos (by omega), if_pos hz, e]
      exact hF k (by omega)
    · refine ⟨[p, ((n + 1 : Nat) : Int)], fun k hk => ?_, ?_, by simp⟩
      · obtain ⟨k, rfl⟩ : ∃ j, k = j + 1 := ⟨k - 1, by omega⟩
        rw [interlocutorlaw8_Value.l0, if_pos (by omega), if_neg hz]
      · intro x hx
        simp only [List.mem_cons, List.not_mem_nil, or_false] at hx
        rcases hx with rfl | rfl
        · exact hp
        · unfold inR; omega
theorem value_ok (q a b : Int) : ∃ v F, (∀ k, 30 ≤ k → interlocutorlaw8_Value.f k q a b = some (v, F)) ∧ inR v ∧ (∀ x ∈ F, inR x) ∧ F.length ≤ 20 := by
  obtain ⟨y, m, d, hd, i1, i2, i3⟩ := day_ok a
  obtain ⟨z, n, e, he, i4, i5, i6⟩ := day_ok b
  obtain ⟨t, ht, _, _⟩ := within8 q 7 (by decide) (by decide)
  have hv := wrap_in (4 + t)
  by_cases c4 : wrap64 (4 + t) = 4
  · refine ⟨_, [y, m, d], fun k hk => ?_, hv, ?_, by simp⟩
    · unfold interlocutorlaw8_Value.f
      rw [hd, Option.bind_some, he, Option.bind_some, ht, Option.bind_some, if_pos c4]
    · intro x hx
      simp only [List.mem_cons, List.not_mem_nil, or_false] at hx
      rcases hx with rfl | rfl | rfl <;> assumption
  by_cases c5 : wrap64 (4 + t) = 5
  · obtain ⟨u1, g1, a1, b1⟩ := within8 a 24 (by decide) (by decide)
    obtain ⟨u2, g2, a2, b2⟩ := within8 b 60 (by decide) (by decide)
    obtain ⟨u3, g3, a3, b3⟩ := within8 (wrap64 (Int.tdiv a 24)) 60 (by decide) (by decide)
    refine ⟨_, [u1, u2, u3], fun k hk => ?_, hv, ?_, by simp⟩
    · unfold interlocutorlaw8_Value.f
      rw [hd, Option.bind_some, he, Option.bind_some, ht, Option.bind_some, if_neg c4, if_pos c5, g1, Option.bind_some, g2, Option.bind_some, g3, Option.bind_some]
    · intro x hx
      simp only [List.mem_cons, List.not_mem_nil, or_false] at hx
      rcases hx with rfl | rfl | rfl
      · exact small_in a1 b1 (by decide)
      · exact small_in a2 b2 (by decide)
      · exact small_in a3 b3 (by decide)
  by_cases c6 : wrap64 (4 + t) = 6
  · obtain ⟨u1, g1, a1, b1⟩ := within8 b 24 (by decide) (by decide)
    obtain ⟨u2, g2, a2, b2⟩ := within8 (wrap64 (Int.tdiv b 24)) 60 (by decide) (by decide)
    obtain ⟨u3, g3, a3, b3⟩ := within8 (wrap64 (Int.tdiv b 1440)) 60 (by decide) (by decide)
    refine ⟨_, [y, m, d, u1, u2, u3], fun k hk => ?_, hv, ?_, by simp⟩
    · unfold interlocutorlaw8_Value.f
      rw [hd, Option.bind_some, he, Option.bind_some, ht, Option.bind_some, if_neg c4, if_neg c5, if_pos c6, g1, Option.bind_some, g2, Option.bind_some, g3, Option.bind_some]
    · intro x hx
      simp only [List.mem_cons, List.not_mem_nil, or_false] at hx
      rcases hx with rfl | rfl | rfl | rfl | rfl | rfl
      · assumption
      · assumption
      · assumption
      · exact small_in a1 b1 (by decide)
      · exact small_in a2 b2 (by decide)
      · exact small_in a3 b3 (by decide)
  by_cases c7 : wrap64 (4 + t) = 7
  · obtain ⟨p, s, hp, ip, s0, s1⟩ := make_ok a b
    obtain ⟨F, hF, h1, h2⟩ := strip_ok 7 [p, s] s.toNat (by omega) p ip
    refine ⟨7, F, fun k hk => ?_, by unfold inR; omega, h1, h2⟩
    unfold interlocutorlaw8_Value.f
    rw [hd, Option.bind_some, he, Option.bind_some, ht, Option.bind_some, if_neg c4, if_neg c5, if_neg c6, if_pos c7, hp k (by omega), Option.bind_some]
    have := hF k (by omega)
    rw [show ((s.toNat : Nat) : Int) = s by omega] at this
    exact this
  by_cases c8 : wrap64 (4 + t) = 8
  · obtain ⟨u1, g1, a1, b1⟩ := within8 b 1000 (by decide) (by decide)
    obtain ⟨u2, g2, a2, b2⟩ := within8 b 3 (by decide) (by decide)
    refine ⟨_, [wrap64 ((wrap64 (10 * u1)) + u2), Int.tmod a 1000000000000], fun k hk => ?_, hv, ?_, by simp⟩
    · unfold interlocutorlaw8_Value.f
      rw [hd, Option.bind_some, he, Option.bind_some, ht, Option.bind_some, if_neg c4, if_neg c5, if_neg c6, if_neg c7, if_pos c8, g1, Option.bind_some, g2, Option.bind_some]
    · intro x hx
      simp only [List.mem_cons, List.not_mem_nil, or_false] at hx
      rcases hx with rfl | rfl
      · exact wrap_in _
      · exact tmod_in _ _ (by decide) (by decide)
  by_cases c9 : wrap64 (4 + t) = 9
  · obtain ⟨u1, g1, a1, b1⟩ := within8 a 9007199254740992 (by decide) (by decide)
    refine ⟨_, [u1], fun k hk => ?_, hv, ?_, by simp⟩
    · unfold interlocutorlaw8_Value.f
      rw [hd, Option.bind_some, he, Option.bind_some, ht, Option.bind_some, if_neg c4, if_neg c5, if_neg c6, if_neg c7, if_neg c8, if_pos c9, g1, Option.bind_some]
    · intro x hx
      simp only [List.mem_cons, List.not_mem_nil, or_false] at hx
      rw [hx]
      exact small_in a1 b1 (by decide)
  by_cases c10 : wrap64 (4 + t) = 10
  · obtain ⟨r1, g1⟩ := days_ok y m d
    obtain ⟨r2, g2⟩ := days_ok z n e
    by_cases hg : r1 > r2
    · refine ⟨_, [z, n, e, y, m, d], fun k hk => ?_, hv, ?_, by simp⟩
      · unfold interlocutorlaw8_Value.f
        rw [hd, Option.bind_some, he, Option.bind_some, ht, Option.bind_some, if_neg c4, if_neg c5, if_neg c6, if_neg c7, if_neg c8, if_neg c9, if_pos c10, g1, Option.bind_some, g2, Option.bind_some, if_pos hg]
      · intro x hx
        simp only [List.mem_cons, List.not_mem_nil, or_false] at hx
        rcases hx with rfl | rfl | rfl | rfl | rfl | rfl <;> assumption
    · refine ⟨_, [y, m, d, z, n, e], fun k hk => ?_, hv, ?_, by simp⟩
      · unfold interlocutorlaw8_Value.f
        rw [hd, Option.bind_some, he, Option.bind_some, ht, Option.bind_some, if_neg c4, if_neg c5, if_neg c6, if_neg c7, if_neg c8, if_neg c9, if_pos c10, g1, Option.bind_some, g2, Option.bind_some, if_neg hg]
      · intro x hx
        simp only [List.mem_cons, List.not_mem_nil, or_false] at hx
        rcases hx with rfl | rfl | rfl | rfl | rfl | rfl <;> assumption
  · refine ⟨_, [], fun k hk => ?_, hv, by simp, by simp⟩
    unfold interlocutorlaw8_Value.f
    rw [hd, Option.bind_some, he, Option.bind_some, ht, Option.bind_some, if_neg c4, if_neg c5, if_neg c6, if_neg c7, if_neg c8, if_neg c9, if_neg c10]
end Go.Proofs.YtlgndfplikhflaaDoor.Plain

namespace Go.Proofs.YtlgndfplikhflaaDoor.Plain
open Go.RowKit Go.Proofs.YtlgndfplikhflaaDoor.G Go.Proofs.YtlgndfplikhflaaDoorW.PrintWords Go.Proofs.YtlgndfplikhflaaDoorW.PrintLast Go.Proofs.YtlgndfplikhflaaDoorW.PrintMore
set_option linter.unusedVariables false
set_option linter.unusedSimpArgs false
abbrev rkBest := YtlgndfplikhflaaDoorW.Rk.best cmpV rvalOf rcostOf
/-- A reading of the laws: its numbers are numbers, its fields few. -/
def okS (r : S36) : Prop := inR r.f0.f0 ∧ (∀ x ∈ r.f0.f1, inR x) ∧ r.f0.f1.length ≤ 20
theorem okS_R {r : S36} (h : okS r) : okR r := ⟨h.1, h.2.1, by have := h.2.2; omega⟩
theorem rd36 (l : List S36) (i : Nat) (h : i < l.length) : rd_T36 l (i : Int) = l[i] := by
  unfold rd_T36
  rw [Int.toNat_natCast, List.getD_eq_getElem?_getD, List.getElem?_eq_getElem h]
  rfl
theorem mem36 (l : List S36) (i : Nat) (h : i < l.length) : rd_T36 l (i : Int) ∈ l := by rw [rd36 l i h]; exact List.getElem_mem h
theorem wrap_small (i : Nat) (h : i ≤ 1000000) : wrap64 ((i : Int) + 1) = ((i + 1 : Nat) : Int) := by unfold wrap64; omega
theorem cmp_at (x : S36) (a : Int) (F : List Int) (hx : x.f0.f1.length ≤ 20) (k : Nat) (hk : 30 ≤ k) : interlocutorref10_Cmp.f k x.f0.f0 x.f0.f1 a F = some (cmpV (rvalOf x) (a, F)) := refCmp_eq _ _ _ _ (by omega) k (by omega)
def cutTo (m : Int) (out : List S36) : List S36 × Bool := if (out.length : Int) > m then (out.take m.toNat, true) else (out, false)
theorem bestOf_cut (l : List S36) (m : Int) (hm : 0 ≤ m) : bestOf l m = cutTo m (rkBest l) := by
  have hx : mx m 0 = m := by unfold mx; split <;> omega
  unfold bestOf cutTo rkBest
  rw [hx]
  by_cases h : m.toNat < (YtlgndfplikhflaaDoorW.Rk.best cmpV rvalOf rcostOf l).length
  · rw [if_pos h, if_pos (by omega)]
  · rw [if_neg h, if_neg (by omega)]
/-- A row is the same as itself. -/
theorem same_loop (l : List S36) (hl : l.length ≤ 1000) (hs : ∀ x ∈ l, okS x) : ∀ (n i : Nat), i + n = l.length → ∀ k, n + 40 ≤ k → interlocutorref10_Same.l0 k l l (i : Int) = some true := by
  intro n
  induction n with
  | zero =>
    intro i hi k hk
    obtain ⟨k, rfl⟩ : ∃ q, k = q + 1 := ⟨k - 1, by omega⟩
    simp only [interlocutorref10_Same.l0]
    rw [if_neg (by omega)]
  | succ n ih =>
    intro i hi k hk
    obtain ⟨k, rfl⟩ : ∃ q, k = q + 1 := ⟨k - 1, by omega⟩
    have hil : i < l.length := by omega
    simp only [interlocutorref10_Same.l0]
    rw [if_pos (by omega), if_pos (by omega), if_pos (by omega), cmp_at _ _ _ (hs _ (mem36 l i hil)).2.2 k (by omega), Option.bind_some, if_pos (show cmpV (rvalOf (rd_T36 l (i : Int))) ((rd_T36 l (i : Int)).f0.f0, (rd_T36 l (i : Int)).f0.f1) = 0 from (cmpV_zero _ _).2 rfl), if_pos trivial, wrap_small i (by omega)]
    exact ih (i + 1) (by omega) k (by omega)
theorem same_ok (l : List S36) (hl : l.length ≤ 1000) (hs : ∀ x ∈ l, okS x) (k : Nat) (hk : l.length + 40 ≤ k) : interlocutorref10_Same.f k l l = some true := by
  unfold interlocutorref10_Same.f
  rw [if_pos rfl]
  exact same_loop l hl hs l.length 0 (by omega) k hk
/-- Readings that are made are the laws' readings. -/
theorem make_loop (ns : List Int) (M : Nat) (hM : M ≤ 100) (hn : ns.length ≤ maxLen) : ∀ (n i : Nat), i + n = min ns.length M → ∀ out : List S36, out.length = i → (∀ x ∈ out, okS x) →
    ∃ l : List S36, (∀ k, 2 * n + 60 ≤ k → interlocutorlaw10_Make.l0 k ns (M : Int) out (i : Int) = some l) ∧ l.length ≤ M ∧ ∀ x ∈ l, okS x := by
  intro n
  induction n with
  | zero =>
    intro i hi out ho hs
    refine ⟨out, fun k hk => ?_, by omega, hs⟩
    obtain ⟨k, rfl⟩ : ∃ q, k = q + 2 := ⟨k - 2, by omega⟩
    simp only [interlocutorlaw10_Make.l0, interlocutorlaw10_Make.j1]
    by_cases h : (i : Int) < (ns.length : Int)
    · rw [if_pos h, if_neg (by rw [decide_eq_true_iff]; omega)]
    · rw [if_neg h, if_neg (by decide)]
  | succ n ih =>
    intro i hi out ho hs
    have hil : i < ns.length := by omega
    have hiM : i < M := by omega
    obtain ⟨t, ht, t0, t1⟩ := within_ok (rd ns (i : Int)) 1099511627776 (by decide) (by decide)
    obtain ⟨v, F, hv, iv, iF, lF⟩ := value_ok (Int.tmod t 7) (Int.tmod (wrap64 (Int.tdiv t 7)) 40) (Int.tmod (wrap64 (Int.tdiv t 280)) 5)
    obtain ⟨c, hc, c0, c1⟩ := within_ok (wrap64 (Int.tdiv t 1400)) 9 (by decide) (by decide)
    obtain ⟨l, h1, h2, h3⟩ := ih (i + 1) (by omega) (out ++ [(⟨(⟨v, F⟩ : S24), c⟩ : S36)]) (by simp; omega) (by
      intro x hx
      rcases List.mem_append.1 hx with hx | hx
      · exact hs x hx
      · rw [List.mem_singleton] at hx
        subst hx
        exact ⟨iv, iF, lF⟩)
    refine ⟨l, fun k hk => ?_, h2, h3⟩
    obtain ⟨k, rfl⟩ : ∃ q, k = q + 2 := ⟨k - 2, by omega⟩
    simp only [interlocutorlaw10_Make.l0, interlocutorlaw10_Make.j1]
    rw [if_pos (by omega), if_pos (by rw [decide_eq_true_iff]; omega), if_pos (by omega), if_pos (by omega), ht, Option.bind_some, hv k (by omega), Option.bind_some, hc, Option.bind_some, if_pos (by omega), wrap_small i (by omega)]
    exact h1 k (by omega)
theorem mk_ok (ns : List Int) (M : Nat) (hM : M ≤ 100) (hn : ns.length ≤ maxLen) : ∃ l : List S36, (∀ k, 300 ≤ k → interlocutorlaw10_Make.f k ns (M : Int) = some l) ∧ l.length ≤ M ∧ ∀ x ∈ l, okS x := by
  obtain ⟨l, h1, h2, h3⟩ := make_loop ns M hM hn (min ns.length M) 0 (by omega) [] rfl (by simp)
  refine ⟨l, fun k hk => ?_, h2, h3⟩
  unfold interlocutorlaw10_Make.f
  exact h1 k (by omega)
theorem best_len (l : List S36) : (rkBest l).length ≤ l.length := YtlgndfplikhflaaDoorW.Rk.best_length (c := cmpV) (v := rvalOf) (k := rcostOf) l
theorem best_sub (l : List S36) : ∀ x ∈ rkBest l, x ∈ l := fun x hx => ((YtlgndfplikhflaaDoorW.Rk.best_mem cmpV_tot valcost_ext l x).1 hx).1
theorem cut_sub (m : Int) (l : List S36) : ∀ x ∈ (cutTo m l).1, x ∈ l := by
  intro x hx
  unfold cutTo at hx
  split at hx
  · exact List.mem_of_mem_take hx
  · exact hx
theorem cut_len (m : Int) (l : List S36) : (cutTo m l).1.length ≤ l.length := by
  unfold cutTo
  split
  · simp
    omega
  · exact Nat.le_refl _
end Go.Proofs.YtlgndfplikhflaaDoor.Plain

namespace Go.Proofs.YtlgndfplikhflaaDoor.Pure
open Go.RowKit Go.Proofs.YtlgndfplikhflaaDoor.G Go.Proofs.YtlgndfplikhflaaDoorW.PrintWords Go.Proofs.YtlgndfplikhflaaDoorW.PrintLast Go.Proofs.YtlgndfplikhflaaDoorW.PrintMore Go.Proofs.YtlgndfplikhflaaDoor.Plain
set_option linter.unusedVariables false
set_option linter.unusedSimpArgs false
theorem RankOwn : interlocutorlaw10_RankOwn.Pure := by
  intro ns most by_ hn _ _ _ _
  obtain ⟨l, g1, g2, g3⟩ := mk_ok ns 30 (by decide) hn
  obtain ⟨t, ht, t0, t1⟩ := within_ok most 50 (by decide) (by decide)
  have hbl := best_len l
  have hlen : (cutTo t (rkBest l)).1.length ≤ 30 := by
    have a := cut_len t (rkBest l)
    omega
  have hok : ∀ x ∈ (cutTo t (rkBest l)).1, okS x := fun x hx => g3 x (best_sub l x (cut_sub t _ x hx))
  refine ⟨20000, if_pos ⟨l, t, (cutTo t (rkBest l)).1, (cutTo t (rkBest l)).2, g1 20000 (by decide), ht, ?_, fun x hx => by have := (hok x hx).2.2; omega, by omega, same_ok l (by omega) g3 20000 (by omega)⟩⟩
  rw [rank_Best.f_is l t (by omega) (fun r hr => okS_R (g3 r hr)), bestOf_cut l t t0]
end Go.Proofs.YtlgndfplikhflaaDoor.Pure
