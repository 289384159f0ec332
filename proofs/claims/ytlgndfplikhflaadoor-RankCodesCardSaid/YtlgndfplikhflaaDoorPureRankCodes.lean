/- RankCodes holds for every input: any value's code is the document's; two have one just where they are the same. No condition. -/
import Derived.Test.YtlgndfplikhflaaDoorPlain10d
import Derived.Test.YtlgndfplikhflaaDoorGx12
import Derived.Test.YtlgndfplikhflaaDoorGx15
namespace Go.Proofs.YtlgndfplikhflaaDoor.Pure
open Go.RowKit Go.Proofs.YtlgndfplikhflaaDoor.G Go.Proofs.YtlgndfplikhflaaDoorW.PrintWords Go.Proofs.YtlgndfplikhflaaDoorW.PrintLast Go.Proofs.YtlgndfplikhflaaDoorW.PrintMore Go.Proofs.YtlgndfplikhflaaDoor.Plain
set_option linter.unusedVariables false
set_option linter.unusedSimpArgs false
def inR (x : Int) : Prop := -9223372036854775808 ≤ x ∧ x ≤ 9223372036854775807
theorem wrap_in (n : Int) : inR (wrap64 n) := by unfold wrap64 inR; omega
theorem wf_in {x : Int} (h : (Lit.int .i64 x).wf = true) : inR x := by
  simp [Lit.wf, IntKind.min, IntKind.max, IntKind.bits, IntKind.signed] at h
  unfold inR
  omega
theorem within8 (a n : Int) (hn : 0 < n) (hn2 : n ≤ 4611686018427387904) : ∃ r, interlocutorlaw8_within.f a n = some r ∧ 0 ≤ r ∧ r < n := within_ok a n hn hn2
theorem within1 (a n : Int) (hn : 0 < n) (hn2 : n ≤ 4611686018427387904) : ∃ r, interlocutorlaw1_within.f a n = some r ∧ 0 ≤ r ∧ r < n := within_ok a n hn hn2
theorem within2 (a n : Int) (hn : 0 < n) (hn2 : n ≤ 4611686018427387904) : ∃ r, interlocutorlaw2_within.f a n = some r ∧ 0 ≤ r ∧ r < n := within_ok a n hn hn2
theorem small_in {r n : Int} (h0 : 0 ≤ r) (h1 : r < n) (hn : n ≤ 4611686018427387904) : inR r := by unfold inR; omega
theorem tmod_in (a n : Int) (hn : 0 < n) (hn2 : n ≤ 4611686018427387904) : inR (Int.tmod a n) := by
  have h1 : Int.tmod a n < n := Int.tmod_lt_of_pos a hn
  have h2 : -n < Int.tmod a n := by
    have := Int.tmod_lt_of_pos (-a) hn
    rw [Int.neg_tmod] at this
    omega
  generalize Int.tmod a n = t at *
  unfold inR
  omega
theorem leap_ok (y : Int) : ∃ b, interlocutorref1_Leap.f y = some b := by
  unfold interlocutorref1_Leap.f
  repeat' split
  all_goals exact ⟨_, rfl⟩
theorem length_ok (y m : Int) : ∃ L, interlocutorref1_Length.f y m = some L ∧ 0 < L ∧ L ≤ 31 := by
  obtain ⟨b, hb⟩ := leap_ok y
  unfold interlocutorref1_Length.f
  rw [hb, Option.bind_some]
  cases b <;> repeat' split
  all_goals exact ⟨_, rfl, by decide, by decide⟩
theorem day_ok (a : Int) : ∃ y m d, interlocutorlaw1_Day.f a false = some (y, m, d) ∧ inR y ∧ inR m ∧ inR d := by
  obtain ⟨t1, h1, _, _⟩ := within1 (wrap64 (Int.tdiv a 400)) 9999 (by decide) (by decide)
  obtain ⟨t2, h2, _, _⟩ := within1 a 12 (by decide) (by decide)
  obtain ⟨L, hL, hL0, hL1⟩ := length_ok (wrap64 (1 + t1)) (wrap64 (1 + t2))
  obtain ⟨t3, h3, _, _⟩ := within1 (wrap64 (Int.tdiv a 12)) L hL0 (by omega)
  refine ⟨_, _, _, ?_, wrap_in (1 + t1), wrap_in (1 + t2), wrap_in (1 + t3)⟩
  unfold interlocutorlaw1_Day.f
  rw [h1, Option.bind_some, if_neg (by decide), h2, Option.bind_some, hL, Option.bind_some, h3, Option.bind_some]
theorem floor_ok (a : Int) : ∃ r, interlocutorref1_floor.f a 400 = some r := by
  unfold interlocutorref1_floor.f
  rw [if_neg (by decide)]
  split <;> exact ⟨_, rfl⟩
theorem days_ok (y m d : Int) : ∃ r, interlocutorref1_Days.f y m d = some r := by
  unfold interlocutorref1_Days.f
  split
  · obtain ⟨r, hr⟩ := floor_ok (wrap64 (y - 1))
    rw [hr, Option.bind_some]
    exact ⟨_, rfl⟩
  · obtain ⟨r, hr⟩ := floor_ok y
    rw [hr, Option.bind_some]
    exact ⟨_, rfl⟩
theorem make_ok (a b : Int) : ∃ p s, (∀ k, 1 ≤ k → interlocutorlaw2_Make.f k a b = some (p, s)) ∧ inR p ∧ 0 ≤ s ∧ s < 19 := by
  obtain ⟨t1, h1, _, _⟩ := within2 b 7 (by decide) (by decide)
  obtain ⟨t2, h2, _, _⟩ := within2 b 11 (by decide) (by decide)
  obtain ⟨t3, h3, h30, h31⟩ := within2 (wrap64 (Int.tdiv b 7)) 19 (by decide) (by decide)
  obtain ⟨t4, h4, _, _⟩ := within2 a 2000 (by decide) (by decide)
  have j : ∀ x, inR x → ∃ p s, (∀ k, 1 ≤ k → interlocutorlaw2_Make.j0 k b x = some (p, s)) ∧ inR p ∧ 0 ≤ s ∧ s < 19 := by
    intro x hx
    by_cases hz : t2 = 0
    · refine ⟨_, t3, fun k hk => ?_, wrap_in (wrap64 (Int.tdiv x 1000000) * 1000000), h30, h31⟩
      obtain ⟨k, rfl⟩ : ∃ j, k = j + 1 := ⟨k - 1, by omega⟩
      rw [interlocutorlaw2_Make.j0, h2, Option.bind_some, if_pos hz, h3, Option.bind_some]
    · refine ⟨x, t3, fun k hk => ?_, hx, h30, h31⟩
      obtain ⟨k, rfl⟩ : ∃ j, k = j + 1 := ⟨k - 1, by omega⟩
      rw [interlocutorlaw2_Make.j0, h2, Option.bind_some, if_neg hz, h3, Option.bind_some]
  by_cases hz : t1 = 0
  · obtain ⟨p, s, hp, r⟩ := j (wrap64 (t4 - 1000)) (wrap_in _)
    refine ⟨p, s, fun k hk => ?_, r⟩
    unfold interlocutorlaw2_Make.f
    rw [h1, Option.bind_some, if_pos hz, h4, Option.bind_some]
    exact hp k hk
  · obtain ⟨p, s, hp, r⟩ := j (Int.tmod a 1000000000000000000) (tmod_in _ _ (by decide) (by decide))
    refine ⟨p, s, fun k hk => ?_, r⟩
    unfold interlocutorlaw2_Make.f
    rw [h1, Option.bind_some, if_neg hz]
    exact hp k hk
theorem strip_ok (q : Int) (F0 : List Int) : ∀ n : Nat, n ≤ 19 → ∀ p, inR p → ∃ F, (∀ k, n + 1 ≤ k → interlocutorlaw8_Value.l0 k p (n : Int) q F0 = some (q, F)) ∧ (∀ x ∈ F, inR x) ∧ F.length ≤ 20 := by
  intro n
  induction n with
  | zero =>
    intro _ p hp
    refine ⟨[p, 0], fun k hk => ?_, ?_, by simp⟩
    · obtain ⟨k, rfl⟩ : ∃ j, k = j + 1 := ⟨k - 1, by omega⟩
      rw [interlocutorlaw8_Value.l0, if_neg (by omega)]
      rfl
    · intro x hx
      simp only [List.mem_cons, List.not_mem_nil, or_false] at hx
      rcases hx with rfl | rfl
      · exact hp
      · unfold inR; omega
  | succ n ih =>
    intro hn p hp
    by_cases hz : Int.tmod p 10 = 0
    · obtain ⟨F, hF, h1, h2⟩ := ih (by omega) (wrap64 (Int.tdiv p 10)) (wrap_in _)
      refine ⟨F, fun k hk => ?_, h1, h2⟩
      obtain ⟨k, rfl⟩ : ∃ j, k = j + 1 := ⟨k - 1, by omega⟩
      have e : wrap64 (((n + 1 : Nat) : Int) - 1) = (n : Int) := by unfold wrap64; omega
      rw [interlocutorlaw8_Value.l0, if_pos (by omega), if_pos hz, e]
      exact hF k (by omega)
    · refine ⟨[p, ((n + 1 : Nat) : Int)], fun k hk => ?_, ?_, by simp⟩
      · obtain ⟨k, rfl⟩ : ∃ j, k = j + 1 := ⟨k - 1, by omega⟩
        rw [interlocutorlaw8_Value.l0, if_pos (by omega), if_neg hz]
      · intro x hx
        simp only [List.mem_cons, List.not_mem_nil, or_false] at hx
        rcases hx with rfl | rfl
        · exact hp
        · unfold inR; omega
theorem value_ok (q a b : Int) : ∃ v F, (∀ k, 30 ≤ k → interlocutorlaw8_Value.f k q a b = some (v, F)) ∧ inR v ∧ (∀ x ∈ F, inR x) ∧ F.length ≤ 20 := by
  obtain ⟨y, m, d, hd, i1, i2, i3⟩ := day_ok a
  obtain ⟨z, n, e, he, i4, i5, i6⟩ := day_ok b
  obtain ⟨t, ht, _, _⟩ := within8 q 7 (by decide) (by decide)
  have hv := wrap_in (4 + t)
  by_cases c4 : wrap64 (4 + t) = 4
  · refine ⟨_, [y, m, d], fun k hk => ?_, hv, ?_, by simp⟩
    · unfold interlocutorlaw8_Value.f
      rw [hd, Option.bind_some, he, Option.bind_some, ht, Option.bind_some, if_pos c4]
    · intro x hx
      simp only [List.mem_cons, List.not_mem_nil, or_false] at hx
      rcases hx with rfl | rfl | rfl <;> assumption
  by_cases c5 : wrap64 (4 + t) = 5
  · obtain ⟨u1, g1, a1, b1⟩ := within8 a 24 (by decide) (by decide)
    obtain ⟨u2, g2, a2, b2⟩ := within8 b 60 (by decide) (by decide)
    obtain ⟨u3, g3, a3, b3⟩ := within8 (wrap64 (Int.tdiv a 24)) 60 (by decide) (by decide)
    refine ⟨_, [u1, u2, u3], fun k hk => ?_, hv, ?_, by simp⟩
    · unfold interlocutorlaw8_Value.f
      rw [hd, Option.bind_some, he, Option.bind_some, ht, Option.bind_some, if_neg c4, if_pos c5, g1, Option.bind_some, g2, Option.bind_some, g3, Option.bind_some]
    · intro x hx
      simp only [List.mem_cons, List.not_mem_nil, or_false] at hx
      rcases hx with rfl | rfl | rfl
      · exact small_in a1 b1 (by decide)
      · exact small_in a2 b2 (by decide)
      · exact small_in a3 b3 (by decide)
  by_cases c6 : wrap64 (4 + t) = 6
  · obtain ⟨u1, g1, a1, b1⟩ := within8 b 24 (by decide) (by decide)
    obtain ⟨u2, g2, a2, b2⟩ := within8 (wrap64 (Int.tdiv b 24)) 60 (by decide) (by decide)
    obtain ⟨u3, g3, a3, b3⟩ := within8 (wrap64 (Int.tdiv b 1440)) 60 (by decide) (by decide)
    refine ⟨_, [y, m, d, u1, u2, u3], fun k hk => ?_, hv, ?_, by simp⟩
    · unfold interlocutorlaw8_Value.f
      rw [hd, Option.bind_some, he, Option.bind_some, ht, Option.bind_some, if_neg c4, if_neg c5, if_pos c6, g1, Option.bind_some, g2, Option.bind_some, g3, Option.bind_some]
    · intro x hx
      simp only [List.mem_cons, List.not_mem_nil, or_false] at hx
      rcases hx with rfl | rfl | rfl | rfl | rfl | rfl
      · assumption
      · assumption
      · assumption
      · exact small_in a1 b1 (by decide)
      · exact small_in a2 b2 (by decide)
      · exact small_in a3 b3 (by decide)
  by_cases c7 : wrap64 (4 + t) = 7
  · obtain ⟨p, s, hp, ip, s0, s1⟩ := make_ok a b
    obtain ⟨F, hF, h1, h2⟩ := strip_ok 7 [p, s] s.toNat (by omega) p ip
    refine ⟨7, F, fun k hk => ?_, by unfold inR; omega, h1, h2⟩
    unfold interlocutorlaw8_Value.f
    rw [hd, Option.bind_some, he, Option.bind_some, ht, Option.bind_some, if_neg c4, if_neg c5, if_neg c6, if_pos c7, hp k (by omega), Option.bind_some]
    have := hF k (by omega)
    rw [show ((s.toNat : Nat) : Int) = s by omega] at this
    exact this
  by_cases c8 : wrap64 (4 + t) = 8
  · obtain ⟨u1, g1, a1, b1⟩ := within8 b 1000 (by decide) (by decide)
    obtain ⟨u2, g2, a2, b2⟩ := within8 b 3 (by decide) (by decide)
    refine ⟨_, [wrap64 ((wrap64 (10 * u1)) + u2), Int.tmod a 1000000000000], fun k hk => ?_, hv, ?_, by simp⟩
    · unfold interlocutorlaw8_Value.f
      rw [hd, Option.bind_some, he, Option.bind_some, ht, Option.bind_some, if_neg c4, if_neg c5, if_neg c6, if_neg c7, if_pos c8, g1, Option.bind_some, g2, Option.bind_some]
    · intro x hx
      simp only [List.mem_cons, List.not_mem_nil, or_false] at hx
      rcases hx with rfl | rfl
      · exact wrap_in _
      · exact tmod_in _ _ (by decide) (by decide)
  by_cases c9 : wrap64 (4 + t) = 9
  · obtain ⟨u1, g1, a1, b1⟩ := within8 a 9007199254740992 (by decide) (by decide)
    refine ⟨_, [u1], fun k hk => ?_, hv, ?_, by simp⟩
    · unfold interlocutorlaw8_Value.f
      rw [hd, Option.bind_some, he, Option.bind_some, ht, Option.bind_some, if_neg c4, if_neg c5, if_neg c6, if_neg c7, if_neg c8, if_pos c9, g1, Option.bind_some]
    · intro x hx
      simp only [List.mem_cons, List.not_mem_nil, or_false] at hx
      rw [hx]
      exact small_in a1 b1 (by decide)
  by_cases c10 : wrap64 (4 + t) = 10
  · obtain ⟨r1, g1⟩ := days_ok y m d
    obtain ⟨r2, g2⟩ := days_ok z n e
    by_cases hg : r1 > r2
    · refine ⟨_, [z, n, e, y, m, d], fun k hk => ?_, hv, ?_, by simp⟩
      · unfold interlocutorlaw8_Value.f
        rw [hd, Option.bind_some, he, Option.bind_some, ht, Option.bind_some, if_neg c4, if_neg c5, if_neg c6, if_neg c7, if_neg c8, if_neg c9, if_pos c10, g1, Option.bind_some, g2, Option.bind_some, if_pos hg]
      · intro x hx
        simp only [List.mem_cons, List.not_mem_nil, or_false] at hx
        rcases hx with rfl | rfl | rfl | rfl | rfl | rfl <;> assumption
    · refine ⟨_, [y, m, d, z, n, e], fun k hk => ?_, hv, ?_, by simp⟩
      · unfold interlocutorlaw8_Value.f
        rw [hd, Option.bind_some, he, Option.bind_some, ht, Option.bind_some, if_neg c4, if_neg c5, if_neg c6, if_neg c7, if_neg c8, if_neg c9, if_pos c10, g1, Option.bind_some, g2, Option.bind_some, if_neg hg]
      · intro x hx
        simp only [List.mem_cons, List.not_mem_nil, or_false] at hx
        rcases hx with rfl | rfl | rfl | rfl | rfl | rfl <;> assumption
  · refine ⟨_, [], fun k hk => ?_, hv, by simp, by simp⟩
    unfold interlocutorlaw8_Value.f
    rw [hd, Option.bind_some, he, Option.bind_some, ht, Option.bind_some, if_neg c4, if_neg c5, if_neg c6, if_neg c7, if_neg c8, if_neg c9, if_neg c10]
theorem code_is (a : Int) (l : List Int) (ha : inR a) (hl : ∀ x ∈ l, inR x) (hn : l.length ≤ 20) : rank_Code.f a l = some ⟨(codeBytes a l).toArray⟩ := by
  unfold rank_Code.f
  rw [if_pos ⟨ha, hl, by omega⟩]
theorem all_digits : ∀ l : List Int, (∀ x ∈ l, inR x) → ∃ K, ∀ x ∈ l, ∀ k, K ≤ k → interlocutorref10_digits.f k x = some ⟨(Lib.itoa x).toArray⟩
  | [], _ => ⟨0, by simp⟩
  | y :: l, h => by
    obtain ⟨K, hK⟩ := all_digits l (fun x hx => h x (List.mem_cons_of_mem _ hx))
    have hy := h y List.mem_cons_self
    obtain ⟨j, hj⟩ := digits_ok y hy.1 hy.2
    refine ⟨K + j, fun x hx k hk => ?_⟩
    rcases List.mem_cons.1 hx with rfl | hx
    · exact hj k (by omega)
    · exact hK x hx k (by omega)
theorem mk_app (p q : List UInt8) : (⟨p.toArray⟩ : ByteArray) ++ (⟨q.toArray⟩ : ByteArray) = ⟨(p ++ q).toArray⟩ := by
  apply ByteArray.ext
  simp
theorem mk_size (p : List UInt8) : (⟨p.toArray⟩ : ByteArray).size = p.length := by
  show p.toArray.size = _
  rw [List.size_toArray]
theorem refCode_loop (a : Int) (l : List Int) (ha : inR a) (hl : ∀ x ∈ l, inR x) (hn : l.length ≤ 20) (K : Nat) (hK : ∀ x ∈ l, ∀ k, K ≤ k → interlocutorref10_digits.f k x = some ⟨(Lib.itoa x).toArray⟩) :
    ∀ (n i : Nat), i + n = l.length → ∀ k, K + n + 1 ≤ k → interlocutorref10_Code.l0 k ⟨(codeBytes a (l.take i)).toArray⟩ (i : Int) a l = some ⟨(codeBytes a l).toArray⟩ := by
  intro n
  induction n with
  | zero =>
    intro i hi k hk
    obtain ⟨k, rfl⟩ : ∃ j, k = j + 1 := ⟨k - 1, by omega⟩
    rw [interlocutorref10_Code.l0, if_neg (by omega), List.take_of_length_le (by omega)]
  | succ n ih =>
    intro i hi k hk
    obtain ⟨k, rfl⟩ : ∃ j, k = j + 1 := ⟨k - 1, by omega⟩
    have hlt : i < l.length := by omega
    have hmem : rd l i ∈ l := by
      unfold rd
      rw [Int.toNat_natCast, List.getD_eq_getElem?_getD, List.getElem?_eq_getElem hlt]
      exact List.getElem_mem hlt
    have ht : l.take (i + 1) = l.take i ++ [rd l i] := by
      unfold rd
      rw [Int.toNat_natCast, List.take_add_one, List.getD_eq_getElem?_getD, List.getElem?_eq_getElem hlt]
      rfl
    have hs := codeBytes_len a (l.take i) ha (fun x hx => hl x (List.mem_of_mem_take hx))
    have hs2 : (l.take i).length ≤ 20 := by rw [List.length_take]; omega
    have hs3 := itoa_len (rd l i) (hl _ hmem).1 (hl _ hmem).2
    have hw : wrap64 ((i : Int) + 1) = ((i + 1 : Nat) : Int) := by unfold wrap64; omega
    have e44 : (⟨#[44]⟩ : ByteArray) = ⟨[(44 : UInt8)].toArray⟩ := rfl
    rw [interlocutorref10_Code.l0, if_pos (by omega), mk_size, if_pos (by omega), if_pos (by omega), hK _ hmem k (by omega), Option.bind_some, e44, mk_app, mk_size, mk_size, if_pos (by rw [List.length_append, List.length_singleton]; omega), mk_app, hw]
    have e : codeBytes a (l.take i) ++ [44] ++ Lib.itoa (rd l i) = codeBytes a (l.take (i + 1)) := by rw [ht, codeBytes_snoc]; simp
    rw [e]
    exact ih (i + 1) (by omega) k (by omega)
theorem refCode_ok (a : Int) (l : List Int) (ha : inR a) (hl : ∀ x ∈ l, inR x) (hn : l.length ≤ 20) : ∃ K, ∀ k, K ≤ k → interlocutorref10_Code.f k a l = some ⟨(codeBytes a l).toArray⟩ := by
  obtain ⟨K, hK⟩ := all_digits (a :: l) (fun x hx => by rcases List.mem_cons.1 hx with rfl | hx; exact ha; exact hl x hx)
  refine ⟨K + 40, fun k hk => ?_⟩
  unfold interlocutorref10_Code.f
  rw [hK a List.mem_cons_self k (by omega), Option.bind_some]
  have h := refCode_loop a l ha hl hn K (fun x hx => hK x (List.mem_cons_of_mem _ hx)) l.length 0 (by omega) k (by omega)
  have e : codeBytes a (l.take 0) = Lib.itoa a := by simp [codeBytes]
  rw [e] at h
  exact h
theorem same_code (a b : Int) (l m : List Int) : (((⟨(codeBytes a l).toArray⟩ : ByteArray).toList == (⟨(codeBytes b m).toArray⟩ : ByteArray).toList) == (cmpV (a, l) (b, m) == 0)) = true := by
  rw [ByteArray.toList_eq, ByteArray.toList_eq]
  show (((codeBytes a l).toArray.toList == (codeBytes b m).toArray.toList) == (cmpV (a, l) (b, m) == 0)) = true
  have h1 := code_inj a b l m
  have h2 := cmpV_zero (a, l) (b, m)
  by_cases h : (a, l) = (b, m)
  · rw [h1.2 h, h2.2 h]
    simp
  · have n1 : codeBytes a l ≠ codeBytes b m := mt h1.1 h
    have n2 : cmpV (a, l) (b, m) ≠ 0 := mt h2.1 h
    rw [beq_eq_false_iff_ne.mpr (show (codeBytes a l).toArray.toList ≠ (codeBytes b m).toArray.toList from n1), beq_eq_false_iff_ne.mpr n2]
    rfl
theorem codes_true (k : Nat) (x y a b : Int) (l m : List Int) : interlocutorlaw10_RankCodes.j0 (k + 1) x y true a l b m = some true := by
  simp only [interlocutorlaw10_RankCodes.j0, if_true]
theorem RankCodes (a : Int) (l : List Int) (b : Int) (m : List Int) (n : Int) (q : Int) (wa : (Lit.int .i64 a).wf = true) (wl : ∀ x ∈ l, (Lit.int .i64 x).wf = true) (wb : (Lit.int .i64 b).wf = true) (wm : ∀ x ∈ m, (Lit.int .i64 x).wf = true) (_ : (Lit.int .i64 n).wf = true) (_ : (Lit.int .i64 q).wf = true) :
    ∃ k, interlocutorlaw10_RankCodes.f k a l b m n q = some true := by
  have hk : interlocutorlaw10_known.f = some true := rfl
  by_cases h1 : (l.length : Int) > 20
  · refine ⟨1, ?_⟩
    unfold interlocutorlaw10_RankCodes.f
    rw [hk, Option.bind_some, if_pos rfl, if_pos h1, codes_true 0]
  · by_cases h2 : (m.length : Int) > 20
    · refine ⟨1, ?_⟩
      unfold interlocutorlaw10_RankCodes.f
      rw [hk, Option.bind_some, if_pos rfl, if_neg h1, decide_eq_true h2, codes_true 0]
    · obtain ⟨v, F, hF, iv, iF, nF⟩ := value_ok (Int.tmod n 7) (wrap64 (Int.tdiv n 7)) q
      obtain ⟨u, G, hG, iu, iG, nG⟩ := value_ok (Int.tmod q 7) (wrap64 (Int.tdiv n 7)) q
      have ia := wf_in wa
      have ib := wf_in wb
      have il : ∀ x ∈ l, inR x := fun x hx => wf_in (wl x hx)
      have im : ∀ x ∈ m, inR x := fun x hx => wf_in (wm x hx)
      obtain ⟨K, hK⟩ := refCode_ok a l ia il (by omega)
      refine ⟨K + 100 + 1, ?_⟩
      unfold interlocutorlaw10_RankCodes.f
      rw [hk, Option.bind_some, if_pos rfl, if_neg h1, decide_eq_false h2, interlocutorlaw10_RankCodes.j0, if_neg (by decide), hF _ (by omega), Option.bind_some, hG _ (by omega), Option.bind_some, code_is a l ia il (by omega), Option.bind_some, hK _ (by omega), Option.bind_some, if_pos rfl, Option.bind_some, code_is b m ib im (by omega), Option.bind_some, Cmp_eq a b l m (by omega) _ (by omega), Option.bind_some, if_pos (same_code a b l m), code_is v F iv iF nF, Option.bind_some, code_is u G iu iG nG, Option.bind_some, Cmp_eq v u F G (by omega) _ (by omega), Option.bind_some]
      rw [same_code]
end Go.Proofs.YtlgndfplikhflaaDoor.Pure
