/- The law's own Text answers, and its text is not long; how many runes a text has. -/
import Derived.Test.YtgbnfjhmobeloaaPlain3s
import Derived.Test.YtgbnfjhmobeloaaGx15
namespace Go.Proofs.Ytgbnfjhmobeloaa.Plain
open Go.RowKit Go.Proofs.Ytgbnfjhmobeloaa.G Go.Proofs.YtgbnfjhmobeloaaW.PrintWords Go.Proofs.YtgbnfjhmobeloaaW.PrintLast Go.Proofs.YtgbnfjhmobeloaaW.PrintMore
set_option linter.unusedVariables false
set_option linter.unusedSimpArgs false
theorem sgn_length : ∀ (f : Nat) (l : List Int) (p : Int), (sgn f l p).length ≤ l.length
  | 0, _, _ => by simp [sgn]
  | f + 1, l, p => by
    simp only [sgn]
    split
    · rename_i hne
      have := sgn_length f (l.drop (decL l).2) (p + (decL l).2)
      have hw := decL_len l hne
      rw [List.length_drop] at this
      simp only [List.length_cons]
      omega
    · simp
def runesOf (s : ByteArray) : List Int := (sgnOf s).map fun p => runeP p.2
theorem runesOf_length (s : ByteArray) : (runesOf s).length ≤ s.size := by
  unfold runesOf sgnOf
  rw [List.length_map]
  have := sgn_length s.size (bytesOf s) 0
  rw [bytesOf_length] at this
  exact this
theorem app_size (a b : ByteArray) : (a ++ b).size = a.size + b.size := by simp
theorem rdOf_size (l : List ByteArray) (m : Nat) (h : ∀ x ∈ l, x.size ≤ m) (i : Int) : (rdOf ByteArray.empty l i).size ≤ m := by
  unfold rdOf
  rw [List.getD_eq_getElem?_getD]
  rcases Nat.lt_or_ge i.toNat l.length with hk | hk
  · rw [List.getElem?_eq_getElem hk]
    exact h _ (List.getElem_mem hk)
  · rw [List.getElem?_eq_none hk]
    simp
theorem text_loop (l0 : List Int) (m : Nat) (hm : m ≤ 1000) (x5 : List ByteArray) (h5 : 0 < x5.length ∧ x5.length ≤ 1000) (h6 : ∀ x ∈ x5, x.size ≤ 31) :
    ∀ (d k i : Nat) (x6 : ByteArray), m - i ≤ d → i ≤ m → 2 * d + 2 < k → x6.size ≤ 32 * i → ∃ t, interlocutorlaw6_Text.l0 k l0 (m : Int) x5 x6 (i : Int) = some t ∧ t.size ≤ 32 * m := by
  intro d
  have stop : ∀ (k i : Nat) (x6 : ByteArray), 3 ≤ k → i ≤ m → x6.size ≤ 32 * i → ¬ (i < l0.length ∧ i < m) → ∃ t, interlocutorlaw6_Text.l0 k l0 (m : Int) x5 x6 (i : Int) = some t ∧ t.size ≤ 32 * m := by
    intro k i x6 hk hi hx hn
    obtain ⟨k, rfl⟩ : ∃ m, k = m + 2 := ⟨k - 2, by omega⟩
    simp only [interlocutorlaw6_Text.l0]
    by_cases c : (i : Int) < (l0.length : Int)
    · rw [if_pos c]
      simp only [interlocutorlaw6_Text.j1]
      rw [decide_eq_false (by omega), if_neg (by simp)]
      exact ⟨_, rfl, by omega⟩
    · rw [if_neg c]
      simp only [interlocutorlaw6_Text.j1]
      rw [if_neg (by simp)]
      exact ⟨_, rfl, by omega⟩
  induction d with
  | zero => intro k i x6 hd hi hk hx; exact stop k i x6 (by omega) hi hx (by omega)
  | succ d ih =>
    intro k i x6 hd hi hk hx
    by_cases hn : i < l0.length ∧ i < m
    · obtain ⟨k, rfl⟩ : ∃ m, k = m + 2 := ⟨k - 2, by omega⟩
      have a1 : m - (i + 1) ≤ d := by omega
      have a2 : i + 1 ≤ m := by omega
      have a3 : 2 * d + 2 < k := by omega
      have a5 : (i : Int) < (l0.length : Int) := by omega
      have a6 : (i : Int) < (m : Int) := by omega
      have a7 : (0 : Int) ≤ (i : Int) := by omega
      have hw : wrap64 ((i : Int) + 1) = ((i + 1 : Nat) : Int) := by rw [wrapIn _ (by omega) (by omega)]; omega
      clear hk hd
      simp only [interlocutorlaw6_Text.l0]
      rw [if_pos a5, decide_eq_true a6]
      simp only [interlocutorlaw6_Text.j1]
      rw [if_pos trivial, if_pos a7, if_pos a5, within_ok _ (x5.length : Int) (by omega) (by omega)]
      simp only [Option.bind_some]
      generalize rd l0 (i : Int) = q
      have b0 := Int.emod_nonneg q (show (x5.length : Int) ≠ 0 by omega)
      have b1 := Int.emod_lt_of_pos q (show (0 : Int) < (x5.length : Int) by omega)
      have s4 := rdOf_size x5 31 h6 (q % (x5.length : Int))
      generalize rdOf ByteArray.empty x5 (q % (x5.length : Int)) = u at s4 ⊢
      have a4 : (x6 ++ u).size ≤ 32 * i + 31 := by rw [app_size]; omega
      rw [if_pos b0, if_pos b1, if_pos (by omega), within_ok _ 3 (by omega) (by omega)]
      simp only [Option.bind_some]
      rw [hw]
      by_cases c : wrap64 (q.tdiv 64) % 3 > 0
      · rw [if_pos c, if_pos (by omega)]
        exact ih k (i + 1) _ a1 a2 a3 (by rw [app_size (x6 ++ u)]; show _ + 1 ≤ _; omega)
      · rw [if_neg c]
        exact ih k (i + 1) _ a1 a2 a3 (by omega)
    · exact stop k i x6 (by omega) hi hx hn
theorem text_ok (l0 : List Int) (m : Nat) (hm : m ≤ 1000) (k : Nat) (hk : 2 * m + 2 < k) : ∃ t, interlocutorlaw6_Text.f k l0 (m : Int) = some t ∧ t.size ≤ 32 * m := by
  unfold interlocutorlaw6_Text.f
  exact text_loop l0 m hm _ (by decide) (by decide) m k 0 _ (by omega) (by omega) (by omega) (by decide)
theorem ref_fold6 (s : ByteArray) (hs : s.size < 17592186044415) (k : Nat) (hk : s.size + 20 < k) : ∃ o, interlocutorref3_Fold.f k s = some (runesOf s, o) := ⟨_, ref_fold s hs k hk⟩
end Go.Proofs.Ytgbnfjhmobeloaa.Plain
