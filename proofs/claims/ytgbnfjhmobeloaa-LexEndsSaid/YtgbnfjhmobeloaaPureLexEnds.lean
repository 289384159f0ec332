/- LexEnds holds for every input: a text ends from the place on behind which there are blanks alone. No condition. -/
import Derived.Test.YtgbnfjhmobeloaaPlain6t
import Derived.Test.YtgbnfjhmobeloaaGx16
namespace Go.Proofs.Ytgbnfjhmobeloaa.Pure
open Go.RowKit Go.Proofs.Ytgbnfjhmobeloaa.G Go.Proofs.YtgbnfjhmobeloaaW.PrintWords Go.Proofs.YtgbnfjhmobeloaaW.PrintLast Go.Proofs.YtgbnfjhmobeloaaW.PrintMore Go.Proofs.Ytgbnfjhmobeloaa.Plain
set_option linter.unusedVariables false
set_option linter.unusedSimpArgs false
theorem while_mem (p : Int → Bool) : ∀ l : List Int, ∀ r ∈ l.takeWhile p, p r = true
  | [], r, h => by cases h
  | x :: xs, r, h => by
    rw [List.takeWhile_cons] at h
    by_cases c : p x = true
    · rw [if_pos c] at h
      rcases List.mem_cons.1 h with rfl | h
      · exact c
      · exact while_mem p xs r h
    · rw [if_neg c] at h
      cases h
theorem while_all (p : Int → Bool) : ∀ l : List Int, (∀ r ∈ l, p r = true) → l.takeWhile p = l
  | [], _ => rfl
  | x :: xs, h => by
    rw [List.takeWhile_cons, h x (List.mem_cons_self ..), if_pos rfl, while_all p xs (fun r hr => h r (List.mem_cons_of_mem _ hr))]
theorem past_end (p : Int → Bool) (l : List Int) (i : Nat) (hi : i ≤ l.length) : pastF p l i = l.length ↔ ∀ r ∈ l.drop i, p r = true := by
  unfold pastF
  constructor
  · intro h
    have e := List.IsPrefix.eq_of_length (List.takeWhile_prefix (l := l.drop i) p) (by rw [List.length_drop]; omega)
    intro r hr
    rw [← e] at hr
    exact while_mem p _ r hr
  · intro h
    rw [while_all p _ h, List.length_drop]
    omega
theorem blank_end (r : List Int) (m p : Nat) (hr : r = [] ∨ r.getD (r.length - 1) 0 ≠ 32) (hp : p ≤ r.length + m) :
    pastF isBlank (r ++ List.replicate m 32) p = (r ++ List.replicate m 32).length ↔ r.length ≤ p := by
  rw [past_end isBlank _ p (by rw [List.length_append, List.length_replicate]; omega)]
  constructor
  · intro h
    refine Nat.le_of_not_lt fun hlt => ?_
    have hne : 0 < r.length := by omega
    have hr' : r.getD (r.length - 1) 0 ≠ 32 := hr.resolve_left (fun e => by rw [e] at hne; exact absurd hne (by simp))
    have eg : r.getD (r.length - 1) 0 = r[r.length - 1] := by rw [List.getD_eq_getElem?_getD, List.getElem?_eq_getElem (by omega)]; rfl
    have hm : r[r.length - 1] ∈ (r ++ List.replicate m 32).drop p := by
      rw [List.drop_append_of_le_length (by omega)]
      refine List.mem_append_left _ ?_
      have : (r.drop p)[r.length - 1 - p]? = some r[r.length - 1] := by
        rw [List.getElem?_drop, List.getElem?_eq_getElem (by omega)]
        congr 2
        omega
      exact List.mem_of_getElem? this
    have := h _ hm
    unfold isBlank at this
    rw [eg] at hr'
    exact hr' (of_decide_eq_true this)
  · intro h x hx
    rw [List.drop_append, List.drop_eq_nil_of_le h, List.nil_append] at hx
    have := List.eq_of_mem_replicate (List.mem_of_mem_drop hx)
    unfold isBlank
    exact decide_eq_true this
theorem ends_loop (r : List Int) (m : Nat) (hr : r = [] ∨ r.getD (r.length - 1) 0 ≠ 32) (hb : r.length + m ≤ 100000) :
    ∀ (d k i : Nat), i + d = r.length + m + 1 → d < k → interlocutorlaw6_LexEnds.l2 k (r.length : Int) (endsF (r ++ List.replicate m 32)) (i : Int) = some true := by
  have hlen : (endsF (r ++ List.replicate m 32)).length = r.length + m + 1 := by unfold endsF; rw [List.length_map, List.length_range, List.length_append, List.length_replicate]
  intro d
  induction d with
  | zero =>
    intro k i hi hk
    obtain ⟨k, rfl⟩ : ∃ m, k = m + 1 := ⟨k - 1, by omega⟩
    simp only [interlocutorlaw6_LexEnds.l2]
    rw [if_neg (by omega)]
  | succ d ih =>
    intro k i hi hk
    obtain ⟨k, rfl⟩ : ∃ m, k = m + 1 := ⟨k - 1, by omega⟩
    have e : rdOf false (endsF (r ++ List.replicate m 32)) (i : Int) = decide ((i : Int) ≥ (r.length : Int)) := by
      unfold rdOf
      rw [show ((i : Int)).toNat = i from rfl, List.getD_eq_getElem?_getD, List.getElem?_eq_getElem (by omega)]
      unfold endsF
      rw [List.getElem_map, List.getElem_range]
      exact decide_eq_decide.2 ((blank_end r m i hr (by omega)).trans (by omega))
    simp only [interlocutorlaw6_LexEnds.l2]
    rw [if_pos (by omega), if_pos (by omega), e, if_neg (by simp), wrap_succ i (by omega)]
    exact ih k (i + 1) (by omega) (by omega)
theorem blank_loop (a : Int) (r : List Int) (hr : r = [] ∨ r.getD (r.length - 1) 0 ≠ 32) (hb : r.length ≤ 1000) :
    ∀ (d k m : Nat), (m : Int) + d = a % 6 → 3000 + d < k → interlocutorlaw6_LexEnds.l1 k a (r ++ List.replicate m 32) (r.length : Int) (m : Int) = some true := by
  intro d
  induction d with
  | zero =>
    intro k m hm hk
    obtain ⟨k, rfl⟩ : ∃ m, k = m + 1 := ⟨k - 1, by omega⟩
    have hz : (r ++ List.replicate m 32).length = r.length + m := by rw [List.length_append, List.length_replicate]
    have hlen : (endsF (r ++ List.replicate m 32)).length = r.length + m + 1 := by unfold endsF; rw [List.length_map, List.length_range, hz]
    simp only [interlocutorlaw6_LexEnds.l1]
    rw [within_ok _ 6 (by omega) (by omega), Option.bind_some, if_neg (by omega)]
    unfold lex_Ends.f
    rw [if_pos (by omega), Option.bind_some, hlen, hz, wrap_succ (r.length + m) (by omega), if_pos rfl]
    exact ends_loop r m hr (by omega) (r.length + m + 1) k 0 (by omega) (by omega)
  | succ d ih =>
    intro k m hm hk
    obtain ⟨k, rfl⟩ : ∃ m, k = m + 1 := ⟨k - 1, by omega⟩
    have hz : (r ++ List.replicate m 32).length = r.length + m := by rw [List.length_append, List.length_replicate]
    simp only [interlocutorlaw6_LexEnds.l1]
    rw [within_ok _ 6 (by omega) (by omega), Option.bind_some, if_pos (by omega), if_pos (by omega), wrap_succ m (by omega), List.append_assoc]
    have ih' := ih k (m + 1) (by omega) (by omega)
    rw [List.replicate_succ'] at ih'
    exact ih'
theorem strip_loop (a : Int) : ∀ (n k : Nat) (r : List Int), r.length ≤ n → r.length ≤ 1000 → 4000 + n < k → interlocutorlaw6_LexEnds.l0 k a r = some true := by
  have j : ∀ (k : Nat) (r : List Int), (r = [] ∨ r.getD (r.length - 1) 0 ≠ 32) → r.length ≤ 1000 → 3500 < k → interlocutorlaw6_LexEnds.j1 k a r = some true := by
    intro k r hr hb hk
    obtain ⟨k, rfl⟩ : ∃ m, k = m + 1 := ⟨k - 1, by omega⟩
    simp only [interlocutorlaw6_LexEnds.j1]
    rw [Option.bind_some, if_pos (by rw [List.length_nil]; omega), List.nil_append]
    have := blank_loop a r hr hb (a % 6).toNat k 0 (by omega) (by omega)
    rw [List.replicate_zero, List.append_nil] at this
    exact this
  intro n
  induction n with
  | zero =>
    intro k r hn hb hk
    obtain ⟨k, rfl⟩ : ∃ m, k = m + 1 := ⟨k - 1, by omega⟩
    simp only [interlocutorlaw6_LexEnds.l0]
    rw [if_neg (by omega)]
    exact j k r (.inl (List.length_eq_zero_iff.1 (by omega))) hb (by omega)
  | succ n ih =>
    intro k r hn hb hk
    obtain ⟨k, rfl⟩ : ∃ m, k = m + 1 := ⟨k - 1, by omega⟩
    simp only [interlocutorlaw6_LexEnds.l0]
    by_cases c : (r.length : Int) > 0
    · have hw : wrap64 ((r.length : Int) - 1) = ((r.length - 1 : Nat) : Int) := by rw [wrapIn _ (by omega) (by omega)]; omega
      have hrd : rd r ((r.length - 1 : Nat) : Int) = r.getD (r.length - 1) 0 := rfl
      rw [if_pos c, hw, if_pos (by omega), if_pos (by omega), hrd]
      by_cases c2 : r.getD (r.length - 1) 0 = 32
      · rw [if_pos c2, if_pos (by omega)]
        exact ih k _ (by rw [List.length_take]; omega) (by rw [List.length_take]; omega) (by omega)
      · rw [if_neg c2]
        exact j k r (.inr c2) hb (by omega)
    · rw [if_neg c]
      exact j k r (.inl (List.length_eq_zero_iff.1 (by omega))) hb (by omega)
theorem LexEnds : interlocutorlaw6_LexEnds.Pure := by
  intro l0 a1 _ _ _ _
  obtain ⟨t, ht, hs⟩ := text_ok l0 8 (by omega) 10000 (by omega)
  obtain ⟨o, ho⟩ := ref_fold6 t (by omega) 10000 (by omega)
  refine ⟨10000, ?_⟩
  unfold interlocutorlaw6_LexEnds.f
  rw [known_k _ (by omega), Option.bind_some, if_pos rfl]
  rw [show ((8 : Nat) : Int) = 8 from rfl] at ht
  rw [ht, Option.bind_some, ho, Option.bind_some]
  have := runesOf_length t
  exact strip_loop a1 1000 10000 (runesOf t) (by omega) (by omega) (by omega)
end Go.Proofs.Ytgbnfjhmobeloaa.Pure
