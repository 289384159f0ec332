/- FoldPlaces holds for every two rows: offsets rise from 0 to the end, by one to four, and there is one more than runes. No condition. -/
import Derived.Test.YtmpmjghhikdefaaPlain3g
import Derived.Test.YtmpmjghhikdefaaGx17
namespace Go.Proofs.Ytmpmjghhikdefaa.Pure
open Go.RowKit Go.Proofs.Ytmpmjghhikdefaa.G Go.Proofs.YtmpmjghhikdefaaW.PrintWords Go.Proofs.YtmpmjghhikdefaaW.PrintLast Go.Proofs.YtmpmjghhikdefaaW.PrintMore Go.Proofs.Ytmpmjghhikdefaa.Plain
set_option linter.unusedVariables false
set_option linter.unusedSimpArgs false
/-- Places rise by one to four, from p to e. -/
def Rises : List Int → Int → Prop
  | [], _ => True
  | [a], e => a = e
  | a :: b :: l, e => a < b ∧ b ≤ a + 4 ∧ Rises (b :: l) e
theorem sgn_rises : ∀ (f : Nat) (l : List Int) (p : Int), l.length ≤ f → Rises ((sgn f l p).map (fun q => q.1) ++ [p + (l.length : Int)]) (p + (l.length : Int)) ∧ ∃ t, (sgn f l p).map (fun q => q.1) ++ [p + (l.length : Int)] = p :: t
  | 0, l, p, h => by
    have : l = [] := List.eq_nil_of_length_eq_zero (by omega)
    subst this
    simp [sgn, Rises]
  | f + 1, l, p, h => by
    by_cases hl : 0 < l.length
    · have hw := decL_len l hl
      obtain ⟨ih, t, ht⟩ := sgn_rises f (l.drop (decL l).2) (p + ((decL l).2 : Int)) (by rw [List.length_drop]; omega)
      rw [List.length_drop, show p + ((decL l).2 : Int) + ((l.length - (decL l).2 : Nat) : Int) = p + (l.length : Int) by omega] at ih ht
      simp only [sgn, if_pos hl, List.map_cons, List.cons_append]
      rw [ht] at ih ⊢
      exact ⟨⟨by omega, by omega, ih⟩, _, rfl⟩
    · have : l = [] := List.eq_nil_of_length_eq_zero (by omega)
      subst this
      simp [sgn, Rises]
theorem rises_at : ∀ (l : List Int) (e : Int) (i : Nat), Rises l e → i + 1 < l.length → l.getD i 0 < l.getD (i + 1) 0 ∧ l.getD (i + 1) 0 ≤ l.getD i 0 + 4
  | [], _, _, _, h => by simp at h
  | [_], _, _, _, h => by simp at h
  | a :: b :: l, e, 0, h, _ => ⟨h.1, h.2.1⟩
  | a :: b :: l, e, i + 1, h, hi => by
    have := rises_at (b :: l) e i h.2.2 (by simpa using hi)
    simpa using this
theorem rises_le : ∀ (l : List Int) (e : Int) (i : Nat), Rises l e → i < l.length → l.getD i 0 ≤ e
  | [], _, _, _, h => by simp at h
  | [a], e, 0, h, _ => by have : a = e := h; simp [this]
  | [_], _, i + 1, _, hi => by simp at hi
  | a :: b :: l, e, 0, h, _ => by
    have := rises_le (b :: l) e 0 h.2.2 (by simp)
    have h1 := h.1
    simp only [List.getD_cons_zero] at this ⊢
    omega
  | a :: b :: l, e, i + 1, h, hi => by
    have := rises_le (b :: l) e i h.2.2 (by simpa using hi)
    simpa using this
theorem rises_ge : ∀ (l : List Int) (e : Int) (i : Nat) (p : Int), Rises l e → i < l.length → (∀ a t, l = a :: t → p ≤ a) → p ≤ l.getD i 0
  | [], _, _, _, _, h, _ => by simp at h
  | a :: l, e, 0, p, h, _, hp => by simpa using hp a l rfl
  | [_], _, i + 1, _, _, hi, _ => by simp at hi
  | a :: b :: l, e, i + 1, p, h, hi, hp => by
    have := rises_ge (b :: l) e i p h.2.2 (by simpa using hi) (fun a' t' hh => by have := hp a _ rfl; have h1 := h.1; injection hh with e1 _; omega)
    simpa using this
theorem places_loop (r o : List Int) (e : Int) (ho : o.length = r.length + 1) (hr : Rises o e) (h0 : ∀ a t, o = a :: t → 0 ≤ a) (he : e ≤ 1000000) (hlen : r.length ≤ 1000000) : ∀ (d k i : Nat), i + d = r.length → d < k → interlocutorlaw3_FoldPlaces.l0 k r o (i : Int) = some true := by
  intro d
  induction d with
  | zero =>
    intro k i hi hk
    obtain ⟨k, rfl⟩ : ∃ m, k = m + 1 := ⟨k - 1, by omega⟩
    simp only [interlocutorlaw3_FoldPlaces.l0]
    rw [if_neg (by omega)]
  | succ d ih =>
    intro k i hi hk
    obtain ⟨k, rfl⟩ : ∃ m, k = m + 1 := ⟨k - 1, by omega⟩
    have a1 := rises_at o e i hr (by omega)
    have a2 := rises_le o e i hr (by omega)
    have a3 := rises_le o e (i + 1) hr (by omega)
    have a4 := rises_ge o e i 0 hr (by omega) h0
    simp only [interlocutorlaw3_FoldPlaces.l0]
    rw [wrapIn ((i : Int) + 1) (by omega) (by omega), show (i : Int) + 1 = ((i + 1 : Nat) : Int) by omega]
    rw [if_pos (by omega), if_pos (by omega), if_pos (by omega), if_pos (by omega), if_pos (by omega)]
    have e1 : rd o (i : Int) = o.getD i 0 := rfl
    have e2 : rd o ((i + 1 : Nat) : Int) = o.getD (i + 1) 0 := rfl
    rw [e1, e2, if_neg (by omega), wrapIn _ (by omega) (by omega), if_neg (by omega)]
    exact ih k (i + 1) (by omega) (by omega)
theorem FoldPlaces : interlocutorlaw3_FoldPlaces.Pure := by
  intro l0 l1 _ _ _ _ _ _
  obtain ⟨k, hk⟩ : ∃ k : Nat, k = 19999 := ⟨_, rfl⟩
  refine ⟨k + 1, ?_⟩
  unfold interlocutorlaw3_FoldPlaces.f
  rw [known_k _ (by omega)]
  simp only [Option.bind_some, if_true]
  by_cases c : (l1.length : Int) > 60
  · rw [if_pos c]
  rw [if_neg c]
  obtain ⟨s, hs, hz⟩ := signs_ok l0 l1 (by omega) (k + 1) (by omega)
  obtain ⟨hr, t, ht⟩ := sgn_rises s.size (bytesOf s) 0 (by rw [bytesOf_length]; omega)
  rw [bytesOf_length, Int.zero_add] at hr ht
  have hn : (runesOf s).length = (sgnOf s).length := by unfold runesOf; rw [List.length_map]
  have hlen := runesOf_length s
  have ho : ((sgnOf s).map (fun p => p.1) ++ [(s.size : Int)]).length = (runesOf s).length + 1 := by rw [List.length_append, List.length_map, hn]; rfl
  have h0 : ∀ a t', (sgnOf s).map (fun p => p.1) ++ [(s.size : Int)] = a :: t' → 0 ≤ a := by
    intro a t' h
    unfold sgnOf at h
    rw [ht] at h
    injection h with h _
    omega
  have e0 : rd ((sgnOf s).map (fun p => p.1) ++ [(s.size : Int)]) 0 = 0 := by
    unfold sgnOf
    rw [ht]
    rfl
  have e1 : rd ((sgnOf s).map (fun p => p.1) ++ [(s.size : Int)]) ((runesOf s).length : Int) = (s.size : Int) := by
    unfold rd
    rw [Int.toNat_natCast, hn, List.getD_eq_getElem?_getD, List.getElem?_append_right (by rw [List.length_map]; omega), List.length_map, Nat.sub_self]
    rfl
  have e2 : Rises ((sgnOf s).map (fun p => p.1) ++ [(s.size : Int)]) (s.size : Int) := hr
  have hf := fold_runes s (by omega)
  generalize (sgnOf s).map (fun p => p.1) ++ [(s.size : Int)] = o at *
  generalize runesOf s = r at *
  rw [hs, Option.bind_some, hf, Option.bind_some]
  dsimp only
  rw [wrapIn _ (by omega) (by omega), if_pos (by omega), if_pos (by omega), if_pos e0, if_pos (by omega), if_pos (by omega), e1]
  simp only [bne_self_eq_false]
  simp only [interlocutorlaw3_FoldPlaces.j0]
  rw [if_neg (by simp)]
  exact places_loop r o _ ho e2 h0 (by omega) (by omega) r.length k 0 (by omega) (by omega)
end Go.Proofs.Ytmpmjghhikdefaa.Pure
