/- FoldRunes holds for every two numbers: any number's rune is the document's, and folded twice it is as folded once. No condition. -/
import Derived.Test.YtmpmjghhikdefaaPlain3r
import Derived.Test.YtmpmjghhikdefaaGx15
namespace Go.Proofs.Ytmpmjghhikdefaa.Pure
open Go.RowKit Go.Proofs.Ytmpmjghhikdefaa.G Go.Proofs.YtmpmjghhikdefaaW.PrintWords Go.Proofs.YtmpmjghhikdefaaW.PrintLast Go.Proofs.YtmpmjghhikdefaaW.PrintMore Go.Proofs.Ytmpmjghhikdefaa.Plain
theorem wrap_range (x : Int) : -9223372036854775808 ≤ wrap64 x ∧ wrap64 x ≤ 9223372036854775807 := by unfold wrap64; omega
theorem runes_loop (l : List Int) (hl : l.length < 1000) (hr : ∀ x ∈ l, -9223372036854775808 ≤ x ∧ x ≤ 9223372036854775807) : ∀ (d k i : Nat), i + d = l.length → d + 50 < k → interlocutorlaw3_FoldRunes.l0 k l (i : Int) = some true := by
  intro d
  induction d with
  | zero =>
    intro k i hi hk
    obtain ⟨k, rfl⟩ : ∃ m, k = m + 1 := ⟨k - 1, by omega⟩
    simp only [interlocutorlaw3_FoldRunes.l0]
    rw [if_neg (by omega)]
  | succ d ih =>
    intro k i hi hk
    obtain ⟨k, rfl⟩ : ∃ m, k = m + 1 := ⟨k - 1, by omega⟩
    have hlt : i < l.length := by omega
    have hrd : rd l (i : Int) = l[i] := by
      unfold rd
      simp [List.getElem?_eq_getElem hlt]
    obtain ⟨b0, b1⟩ := hr l[i] (List.getElem_mem hlt)
    obtain ⟨c0, c1⟩ := runeP_in l[i] b0 b1
    simp only [interlocutorlaw3_FoldRunes.l0]
    rw [if_pos (by omega), if_pos (by omega), hrd, rune_k k (by omega) _ b0 b1, ref_rune_k k (by omega) _ b0 b1]
    simp only [Option.bind_some]
    rw [if_pos trivial, rune_k k (by omega) _ c0 c1, runeP_twice]
    simp only [Option.bind_some]
    rw [if_pos trivial, wrapIn _ (by omega) (by omega), show (i : Int) + 1 = ((i + 1 : Nat) : Int) by omega]
    exact ih k (i + 1) (by omega) (by omega)
theorem FoldRunes : interlocutorlaw3_FoldRunes.Pure := by
  intro a0 a1 h0 h1
  obtain ⟨b0, b1⟩ := i64_of_wf h0
  refine ⟨60, ?_⟩
  unfold interlocutorlaw3_FoldRunes.f
  rw [known_k 60 (by omega)]
  simp only [Option.bind_some, if_true]
  rw [within_ok a0 69632 (by omega) (by omega), within_ok a0 3 (by omega) (by omega), within_ok a0 1280 (by omega) (by omega), within_ok a1 _ (by decide) (by decide)]
  simp only [Option.bind_some]
  have c0 := Int.emod_nonneg a1 (show (34 : Int) ≠ 0 by omega)
  have c1 := Int.emod_lt_of_pos a1 (show (0 : Int) < 34 by omega)
  have e34 : (([9, 65, 90, 160, 192, 215, 222, 700, 913, 930, 937, 1024, 1039, 1040, 1071, 1632, 1641, 1776, 1785, 2406, 2415, 8192, 8202, 8208, 8213, 8216, 8239, 8287, 8722, 12288, 65281, 65374, 65313, 65338] : List Int).length : Int) = 34 := rfl
  rw [e34, if_pos c0, if_pos c1]
  have d0 := Int.emod_nonneg a0 (show (69632 : Int) ≠ 0 by omega)
  have d1 := Int.emod_lt_of_pos a0 (show (0 : Int) < 69632 by omega)
  have f0 := Int.emod_nonneg a0 (show (1280 : Int) ≠ 0 by omega)
  have f1 := Int.emod_lt_of_pos a0 (show (0 : Int) < 1280 by omega)
  refine runes_loop _ (by simp only [List.length_cons, List.length_nil]; omega) ?_ 4 60 0 rfl (by omega)
  intro x hx
  simp only [List.mem_cons, List.not_mem_nil, or_false] at hx
  rcases hx with rfl | rfl | rfl | rfl
  · exact ⟨b0, b1⟩
  · omega
  · exact wrap_range _
  · omega
end Go.Proofs.Ytmpmjghhikdefaa.Pure
