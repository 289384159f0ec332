/- The laws' own values: what they may be. In plain words. -/
import Derived.Test.YtlgndfplikhflaaDoorPlain10
import Derived.Test.YtlgndfplikhflaaDoorGx14
namespace Go.Proofs.YtlgndfplikhflaaDoor.Plain
open Go.RowKit Go.Proofs.YtlgndfplikhflaaDoor.G Go.Proofs.YtlgndfplikhflaaDoorW.PrintWords Go.Proofs.YtlgndfplikhflaaDoorW.PrintLast Go.Proofs.YtlgndfplikhflaaDoorW.PrintMore
set_option linter.unusedVariables false
set_option linter.unusedSimpArgs false
def inR (x : Int) : Prop := -9223372036854775808 ≤ x ∧ x ≤ 9223372036854775807
theorem wrap_in (n : Int) : inR (wrap64 n) := by unfold wrap64 inR; omega
theorem within8 (a n : Int) (hn : 0 < n) (hn2 : n ≤ 4611686018427387904) : ∃ r, interlocutorlaw8_within.f a n = some r ∧ 0 ≤ r ∧ r < n := within_ok a n hn hn2
theorem within1 (a n : Int) (hn : 0 < n) (hn2 : n ≤ 4611686018427387904) : ∃ r, interlocutorlaw1_within.f a n = some r ∧ 0 ≤ r ∧ r < n := within_ok a n hn hn2
theorem within2 (a n : Int) (hn : 0 < n) (hn2 : n ≤ 4611686018427387904) : ∃ r, interlocutorlaw2_within.f a n = some r ∧ 0 ≤ r ∧ r < n := within_ok a n hn hn2
theorem small_in {r n : Int} (h0 : 0 ≤ r) (h1 : r < n) (hn : n ≤ 4611686018427387904) : inR r := by unfold inR; omega
theorem tmod_in (a n : Int) (hn : 0 < n) (hn2 : n ≤ 4611686018427387904) : inR (Int.tmod a n) := by
  have h1 : Int.tmod a n < n := Int.tmod_lt_of_pos a hn
  have h2 : -n < Int.tmod a n := by
    have := Int.tmod_lt_of_pos (-a) hn
    rw [Int.neg_tmod] at this
    omega
  generalize Int.tmod a n = t at *
  unfold inR
  omega
theorem leap_ok (y : Int) : ∃ b, interlocutorref1_Leap.f y = some b := by
  unfold interlocutorref1_Leap.f
  repeat' split
  all_goals exact ⟨_, rfl⟩
theorem length_ok (y m : Int) : ∃ L, interlocutorref1_Length.f y m = some L ∧ 0 < L ∧ L ≤ 31 := by
  obtain ⟨b, hb⟩ := leap_ok y
  unfold interlocutorref1_Length.f
  rw [hb, Option.bind_some]
  cases b <;> repeat' split
  all_goals exact ⟨_, rfl, by decide, by decide⟩
theorem day_ok (a : Int) : ∃ y m d, interlocutorlaw1_Day.f a false = some (y, m, d) ∧ inR y ∧ inR m ∧ inR d := by
  obtain ⟨t1, h1, _, _⟩ := within1 (wrap64 (Int.tdiv a 400)) 9999 (by decide) (by decide)
  obtain ⟨t2, h2, _, _⟩ := within1 a 12 (by decide) (by decide)
  obtain ⟨L, hL, hL0, hL1⟩ := length_ok (wrap64 (1 + t1)) (wrap64 (1 + t2))
  obtain ⟨t3, h3, _, _⟩ := within1 (wrap64 (Int.tdiv a 12)) L hL0 (by omega)
  refine ⟨_, _, _, ?_, wrap_in (1 + t1), wrap_in (1 + t2), wrap_in (1 + t3)⟩
  unfold interlocutorlaw1_Day.f
  rw [h1, Option.bind_some, if_neg (by decide), h2, Option.bind_some, hL, Option.bind_some, h3, Option.bind_some]
theorem floor_ok (a : Int) : ∃ r, interlocutorref1_floor.f a 400 = some r := by
  unfold interlocutorref1_floor.f
  rw [if_neg (by decide)]
  split <;> exact ⟨_, rfl⟩
theorem days_ok (y m d : Int) : ∃ r, interlocutorref1_Days.f y m d = some r := by
  unfold interlocutorref1_Days.f
  split
  · obtain ⟨r, hr⟩ := floor_ok (wrap64 (y - 1))
    rw [hr, Option.bind_some]
    exact ⟨_, rfl⟩
  · obtain ⟨r, hr⟩ := floor_ok y
    rw [hr, Option.bind_some]
    exact ⟨_, rfl⟩
theorem make_ok (a b : Int) : ∃ p s, (∀ k, 1 ≤ k → interlocutorlaw2_Make.f k a b = some (p, s)) ∧ inR p ∧ 0 ≤ s ∧ s < 19 := by
  obtain ⟨t1, h1, _, _⟩ := within2 b 7 (by decide) (by decide)
  obtain ⟨t2, h2, _, _⟩ := within2 b 11 (by decide) (by decide)
  obtain ⟨t3, h3, h30, h31⟩ := within2 (wrap64 (Int.tdiv b 7)) 19 (by decide) (by decide)
  obtain ⟨t4, h4, _, _⟩ := within2 a 2000 (by decide) (by decide)
  have j : ∀ x, inR x → ∃ p s, (∀ k, 1 ≤ k → interlocutorlaw2_Make.j0 k b x = some (p, s)) ∧ inR p ∧ 0 ≤ s ∧ s < 19 := by
    intro x hx
    by_cases hz : t2 = 0
    · refine ⟨_, t3, fun k hk => ?_, wrap_in (wrap64 (Int.tdiv x 1000000) * 1000000), h30, h31⟩
      obtain ⟨k, rfl⟩ : ∃ j, k = j + 1 := ⟨k - 1, by omega⟩
      rw [interlocutorlaw2_Make.j0, h2, Option.bind_some, if_pos hz, h3, Option.bind_some]
    · refine ⟨x, t3, fun k hk => ?_, hx, h30, h31⟩
      obtain ⟨k, rfl⟩ : ∃ j, k = j + 1 := ⟨k - 1, by omega⟩
      rw [interlocutorlaw2_Make.j0, h2, Option.bind_some, if_neg hz, h3, Option.bind_some]
  by_cases hz : t1 = 0
  · obtain ⟨p, s, hp, r⟩ := j (wrap64 (t4 - 1000)) (wrap_in _)
    refine ⟨p, s, fun k hk => ?_, r⟩
    unfold interlocutorlaw2_Make.f
    rw [h1, Option.bind_some, if_pos hz, h4, Option.bind_some]
    exact hp k hk
  · obtain ⟨p, s, hp, r⟩ := j (Int.tmod a 1000000000000000000) (tmod_in _ _ (by decide) (by decide))
    refine ⟨p, s, fun k hk => ?_, r⟩
    unfold interlocutorlaw2_Make.f
    rw [h1, Option.bind_some, if_neg hz]
    exact hp k hk
theorem strip_ok (q : Int) (F0 : List Int) : ∀ n : Nat, n ≤ 19 → ∀ p, inR p → ∃ F, (∀ k, n + 1 ≤ k → interlocutorlaw8_Value.l0 k p (n : Int) q F0 = some (q, F)) ∧ (∀ x ∈ F, inR x) ∧ F.length ≤ 20 := by
  intro n
  induction n with
  | zero =>
    intro _ p hp
    refine ⟨[p, 0], fun k hk => ?_, ?_, by simp⟩
    · obtain ⟨k, rfl⟩ : ∃ j, k = j + 1 := ⟨k - 1, by omega⟩
      rw [interlocutorlaw8_Value.l0, if_neg (by omega)]
      rfl
    · intro x hx
      simp only [List.mem_cons, List.not_mem_nil, or_false] at hx
      rcases hx with rfl | rfl
      · exact hp
      · unfold inR; omega
  | succ n ih =>
    intro hn p hp
    by_cases hz : Int.tmod p 10 = 0
    · obtain ⟨F, hF, h1, h2⟩ := ih (by omega) (wrap64 (Int.tdiv p 10)) (wrap_in _)
      refine ⟨F, fun k hk => ?_, h1, h2⟩
      obtain ⟨k, rfl⟩ : ∃ j, k = j + 1 := ⟨k - 1, by omega⟩
      have e : wrap64 (((n + 1 : Nat) : Int) - 1) = (n : Int) := by unfold wrap64; omega
      rw [interlocutorlaw8_Value.l0, if_pos (by omega), if_pos hz, e]
      exact hF k (by omega)
    · refine ⟨[p, ((n + 1 : Nat) : Int)], fun k hk => ?_, ?_, by simp⟩
      · obtain ⟨k, rfl⟩ : ∃ j, k = j + 1 := ⟨k - 1, by omega⟩
        rw [interlocutorlaw8_Value.l0, if_pos (by omega), if_neg hz]
      · intro x hx
        simp only [List.mem_cons, List.not_mem_nil, or_false] at hx
        rcases hx with rfl | rfl
        · exact hp
        · unfold inR; omega
theorem value_ok (q a b : Int) : ∃ v F, (∀ k, 30 ≤ k → interlocutorlaw8_Value.f k q a b = some (v, F)) ∧ inR v ∧ (∀ x ∈ F, inR x) ∧ F.length ≤ 20 := by
  obtain ⟨y, m, d, hd, i1, i2, i3⟩ := day_ok a
  obtain ⟨z, n, e, he, i4, i5, i6⟩ := day_ok b
  obtain ⟨t, ht, _, _⟩ := within8 q 7 (by decide) (by decide)
  have hv := wrap_in (4 + t)
  by_cases c4 : wrap64 (4 + t) = 4
  · refine ⟨_, [y, m, d], fun k hk => ?_, hv, ?_, by simp⟩
    · unfold interlocutorlaw8_Value.f
      rw [hd, Option.bind_some, he, Option.bind_some, ht, Option.bind_some, if_pos c4]
    · intro x hx
      simp only [List.mem_cons, List.not_mem_nil, or_false] at hx
      rcases hx with rfl | rfl | rfl <;> assumption
  by_cases c5 : wrap64 (4 + t) = 5
  · obtain ⟨u1, g1, a1, b1⟩ := within8 a 24 (by decide) (by decide)
    obtain ⟨u2, g2, a2, b2⟩ := within8 b 60 (by decide) (by decide)
    obtain ⟨u3, g3, a3, b3⟩ := within8 (wrap64 (Int.tdiv a 24)) 60 (by decide) (by decide)
    refine ⟨_, [u1, u2, u3], fun k hk => ?_, hv, ?_, by simp⟩
    · unfold interlocutorlaw8_Value.f
      rw [hd, Option.bind_some, he, Option.bind_some, ht, Option.bind_some, if_neg c4, if_pos c5, g1, Option.bind_some, g2, Option.bind_some, g3, Option.bind_some]
    · intro x hx
      simp only [List.mem_cons, List.not_mem_nil, or_false] at hx
      rcases hx with rfl | rfl | rfl
      · exact small_in a1 b1 (by decide)
      · exact small_in a2 b2 (by decide)
      · exact small_in a3 b3 (by decide)
  by_cases c6 : wrap64 (4 + t) = 6
  · obtain ⟨u1, g1, a1, b1⟩ := within8 b 24 (by decide) (by decide)
    obtain ⟨u2, g2, a2, b2⟩ := within8 (wrap64 (Int.tdiv b 24)) 60 (by decide) (by decide)
    obtain ⟨u3, g3, a3, b3⟩ := within8 (wrap64 (Int.tdiv b 1440)) 60 (by decide) (by decide)
    refine ⟨_, [y, m, d, u1, u2, u3], fun k hk => ?_, hv, ?_, by simp⟩
    · unfold interlocutorlaw8_Value.f
      rw [hd, Option.bind_some, he, Option.bind_some, ht, Option.bind_some, if_neg c4, if_neg c5, if_pos c6, g1, Option.bind_some, g2, Option.bind_some, g3, Option.bind_some]
    · intro x hx
      simp only [List.mem_cons, List.not_mem_nil, or_false] at hx
      rcases hx with rfl | rfl | rfl | rfl | rfl | rfl
      · assumption
      · assumption
      · assumption
      · exact small_in a1 b1 (by decide)
      · exact small_in a2 b2 (by decide)
      · exact small_in a3 b3 (by decide)
  by_cases c7 : wrap64 (4 + t) = 7
  · obtain ⟨p, s, hp, ip, s0, s1⟩ := make_ok a b
    obtain ⟨F, hF, h1, h2⟩ := strip_ok 7 [p, s] s.toNat (by omega) p ip
    refine ⟨7, F, fun k hk => ?_, by unfold inR; omega, h1, h2⟩
    unfold interlocutorlaw8_Value.f
    rw [hd, Option.bind_some, he, Option.bind_some, ht, Option.bind_some, if_neg c4, if_neg c5, if_neg c6, if_pos c7, hp k (by omega), Option.bind_some]
    have := hF k (by omega)
    rw [show ((s.toNat : Nat) : Int) = s by omega] at this
    exact this
  by_cases c8 : wrap64 (4 + t) = 8
  · obtain ⟨u1, g1, a1, b1⟩ := within8 b 1000 (by decide) (by decide)
    obtain ⟨u2, g2, a2, b2⟩ := within8 b 3 (by decide) (by decide)
    refine ⟨_, [wrap64 ((wrap64 (10 * u1)) + u2), Int.tmod a 1000000000000], fun k hk => ?_, hv, ?_, by simp⟩
    · unfold interlocutorlaw8_Value.f
      rw [hd, Option.bind_some, he, Option.bind_some, ht, Option.bind_some, if_neg c4, if_neg c5, if_neg c6, if_neg c7, if_pos c8, g1, Option.bind_some, g2, Option.bind_some]
    · intro x hx
      simp only [List.mem_cons, List.not_mem_nil, or_false] at hx
      rcases hx with rfl | rfl
      · exact wrap_in _
      · exact tmod_in _ _ (by decide) (by decide)
  by_cases c9 : wrap64 (4 + t) = 9
  · obtain ⟨u1, g1, a1, b1⟩ := within8 a 9007199254740992 (by decide) (by decide)
    refine ⟨_, [u1], fun k hk => ?_, hv, ?_, by simp⟩
    · unfold interlocutorlaw8_Value.f
      rw [hd, Option.bind_some, he, Option.bind_some, ht, Option.bind_some, if_neg c4, if_neg c5, if_neg c6, if_neg c7, if_neg c8, if_pos c9, g1, Option.bind_some]
    · intro x hx
      simp only [List.mem_cons, List.not_mem_nil, or_false] at hx
      rw [hx]
      exact small_in a1 b1 (by decide)
  by_cases c10 : wrap64 (4 + t) = 10
  · obtain ⟨r1, g1⟩ := days_ok y m d
    obtain ⟨r2, g2⟩ := days_ok z n e
    by_cases hg : r1 > r2
    · refine ⟨_, [z, n, e, y, m, d], fun k hk => ?_, hv, ?_, by simp⟩
      · unfold interlocutorlaw8_Value.f
        rw [hd, Option.bind_some, he, Option.bind_some, ht, Option.bind_some, if_neg c4, if_neg c5, if_neg c6, if_neg c7, if_neg c8, if_neg c9, if_pos c10, g1, Option.bind_some, g2, Option.bind_some, if_pos hg]
      · intro x hx
        simp only [List.mem_cons, List.not_mem_nil, or_false] at hx
        rcases hx with rfl | rfl | rfl | rfl | rfl | rfl <;> assumption
    · refine ⟨_, [y, m, d, z, n, e], fun k hk => ?_, hv, ?_, by simp⟩
      · unfold interlocutorlaw8_Value.f
        rw [hd, Option.bind_some, he, Option.bind_some, ht, Option.bind_some, if_neg c4, if_neg c5, if_neg c6, if_neg c7, if_neg c8, if_neg c9, if_pos c10, g1, Option.bind_some, g2, Option.bind_some, if_neg hg]
      · intro x hx
        simp only [List.mem_cons, List.not_mem_nil, or_false] at hx
        rcases hx with rfl | rfl | rfl | rfl | rfl | rfl <;> assumption
  · refine ⟨_, [], fun k hk => ?_, hv, by simp, by simp⟩
    unfold interlocutorlaw8_Value.f
    rw [hd, Option.bind_some, he, Option.bind_some, ht, Option.bind_some, if_neg c4, if_neg c5, if_neg c6, if_neg c7, if_neg c8, if_neg c9, if_neg c10]
end Go.Proofs.YtlgndfplikhflaaDoor.Plain
