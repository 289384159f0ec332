/- The law's own Signs answers, and its text is not long. -/
import Derived.Test.YtmpmjghhikdefaaPlain3t
namespace Go.Proofs.Ytmpmjghhikdefaa.Plain
open Go.RowKit Go.Proofs.Ytmpmjghhikdefaa.G Go.Proofs.YtmpmjghhikdefaaW.PrintWords Go.Proofs.YtmpmjghhikdefaaW.PrintLast Go.Proofs.YtmpmjghhikdefaaW.PrintMore
set_option linter.unusedVariables false
set_option linter.unusedSimpArgs false
theorem app_size (a b : ByteArray) : (a ++ b).size = a.size + b.size := by simp
theorem rdOf_size (l : List ByteArray) (m : Nat) (h : ∀ x ∈ l, x.size ≤ m) (i : Int) : (rdOf ByteArray.empty l i).size ≤ m := by
  unfold rdOf
  rw [List.getD_eq_getElem?_getD]
  rcases Nat.lt_or_ge i.toNat l.length with hk | hk
  · rw [List.getElem?_eq_getElem hk]
    exact h _ (List.getElem_mem hk)
  · rw [List.getElem?_eq_none hk]
    simp
theorem signs_loop (l0 l1 : List Int) (x5 : List ByteArray) (h1 : l1.length ≤ 60) (h5 : x5.length = 32) (h6 : ∀ x ∈ x5, x.size ≤ 4) :
    ∀ (d k i : Nat) (x6 : ByteArray), 40 - i ≤ d → i ≤ 40 → 2 * d + 2 < k → x6.size ≤ 64 * i → ∃ t, interlocutorlaw3_Signs.l0 k l0 l1 x5 x6 (i : Int) = some t ∧ t.size ≤ 2560 := by
  intro d
  have stop : ∀ (k i : Nat) (x6 : ByteArray), 3 ≤ k → i ≤ 40 → x6.size ≤ 64 * i → ¬ (i < l0.length ∧ i < 40) → ∃ t, interlocutorlaw3_Signs.l0 k l0 l1 x5 x6 (i : Int) = some t ∧ t.size ≤ 2560 := by
    intro k i x6 hk hi hx hn
    obtain ⟨k, rfl⟩ : ∃ m, k = m + 2 := ⟨k - 2, by omega⟩
    simp only [interlocutorlaw3_Signs.l0]
    by_cases c : (i : Int) < (l0.length : Int)
    · rw [if_pos c]
      simp only [interlocutorlaw3_Signs.j1]
      rw [decide_eq_false (by omega), if_neg (by simp)]
      exact ⟨_, rfl, by omega⟩
    · rw [if_neg c]
      simp only [interlocutorlaw3_Signs.j1]
      rw [if_neg (by simp)]
      exact ⟨_, rfl, by omega⟩
  induction d with
  | zero => intro k i x6 hd hi hk hx; exact stop k i x6 (by omega) hi hx (by omega)
  | succ d ih =>
    intro k i x6 hd hi hk hx
    by_cases hn : i < l0.length ∧ i < 40
    · obtain ⟨k, rfl⟩ : ∃ m, k = m + 2 := ⟨k - 2, by omega⟩
      have a1 : 40 - (i + 1) ≤ d := by omega
      have a2 : i + 1 ≤ 40 := by omega
      have a3 : 2 * d + 2 < k := by omega
      have a5 : (i : Int) < (l0.length : Int) := by omega
      have a6 : (i : Int) < 40 := by omega
      have a7 : (0 : Int) ≤ (i : Int) := by omega
      have hw : wrap64 ((i : Int) + 1) = ((i + 1 : Nat) : Int) := by rw [wrapIn _ (by omega) (by omega)]; omega
      clear hk hd
      simp only [interlocutorlaw3_Signs.l0]
      rw [if_pos a5, decide_eq_true a6]
      simp only [interlocutorlaw3_Signs.j1]
      rw [if_pos trivial, if_pos a7, if_pos a5, h5, show ((32 : Nat) : Int) = 32 from rfl, within_ok _ 32 (by omega) (by omega)]
      simp only [Option.bind_some]
      rw [within_ok _ 7 (by omega) (by omega)]
      simp only [Option.bind_some]
      generalize rd l0 (i : Int) = q
      have b0 := Int.emod_nonneg q (show (32 : Int) ≠ 0 by omega)
      have b1 := Int.emod_lt_of_pos q (show (0 : Int) < 32 by omega)
      have s4 := rdOf_size x5 4 h6 (q % 32)
      generalize rdOf ByteArray.empty x5 (q % 32) = u at s4 ⊢
      rw [if_pos b0, if_pos b1, if_pos (by omega)]
      rw [hw]
      have a4 : (x6 ++ u).size ≤ 64 * (i + 1) := by rw [app_size]; omega
      have go1 := ih k (i + 1) (x6 ++ u) a1 a2 a3 a4
      by_cases c : wrap64 (q.tdiv 40) % 7 = 0
      · rw [if_pos c]
        by_cases c2 : (l1.length : Int) > 0
        · rw [if_pos c2, wrapIn _ (by omega) (by omega), within_ok _ _ (by omega) (by omega)]
          simp only [Option.bind_some]
          have d0 := Int.emod_nonneg q (show ((l1.length : Int) + 1) ≠ 0 by omega)
          have d1 := Int.emod_lt_of_pos q (show (0 : Int) < (l1.length : Int) + 1 by omega)
          have hz : (strOfNums (List.take (q % ((l1.length : Int) + 1)).toNat l1)).size ≤ 60 := by rw [nums_size, List.length_take]; omega
          generalize strOfNums (List.take (q % ((l1.length : Int) + 1)).toNat l1) = z at hz ⊢
          rw [if_pos d0, if_pos (by omega), if_pos (by have := app_size x6 u; omega)]
          exact ih k (i + 1) _ (by omega) (by omega) (by omega) (by have := app_size x6 u; have := app_size (x6 ++ u) z; omega)
        · rw [if_neg c2]
          exact go1
      · rw [if_neg c]
        exact go1
    · exact stop k i x6 (by omega) hi hx hn
theorem signs_ok (l0 l1 : List Int) (h1 : l1.length ≤ 60) (k : Nat) (hk : 100 ≤ k) : ∃ t, interlocutorlaw3_Signs.f k l0 l1 = some t ∧ t.size ≤ 2560 := by
  unfold interlocutorlaw3_Signs.f
  exact signs_loop l0 l1 _ h1 (by decide) (by decide) 40 k 0 _ (by omega) (by omega) (by omega) (by decide)
end Go.Proofs.Ytmpmjghhikdefaa.Plain
