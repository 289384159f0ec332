/- FoldAll holds for every input: any bytes have the document's runes, and offsets, and text. No condition. -/
import Derived.Test.YtmpmjghhikdefaaPlain3g
import Derived.Test.YtmpmjghhikdefaaGx14
namespace Go.Proofs.Ytmpmjghhikdefaa.Pure
open Go.RowKit Go.Proofs.Ytmpmjghhikdefaa.G Go.Proofs.YtmpmjghhikdefaaW.PrintWords Go.Proofs.YtmpmjghhikdefaaW.PrintLast Go.Proofs.YtmpmjghhikdefaaW.PrintMore Go.Proofs.Ytmpmjghhikdefaa.Plain
set_option linter.unusedVariables false
set_option linter.unusedSimpArgs false
theorem all_loop (l : List ByteArray) (hl : l.length = 3) (hs : ∀ s ∈ l, s.size ≤ 3000) : ∀ (d k i : Nat), i + d = l.length → 10000 + d < k → interlocutorlaw3_FoldAll.l0 k l (i : Int) = some true := by
  intro d
  induction d with
  | zero =>
    intro k i hi hk
    obtain ⟨k, rfl⟩ : ∃ m, k = m + 1 := ⟨k - 1, by omega⟩
    simp only [interlocutorlaw3_FoldAll.l0]
    rw [if_neg (by omega)]
  | succ d ih =>
    intro k i hi hk
    obtain ⟨k, rfl⟩ : ∃ m, k = m + 1 := ⟨k - 1, by omega⟩
    have h1 : i < l.length := by omega
    have e1 : rdOf ByteArray.empty l (i : Int) = l[i] := by
      unfold rdOf
      simp [List.getElem?_eq_getElem h1]
    have hz := hs _ (List.getElem_mem h1)
    generalize l[i] = s at e1 hz
    have a0 : i < 1000000000000000000 := by omega
    have a3 : (i : Int) < 3 := by omega
    have a4 : (0 : Int) ≤ (i : Int) := by omega
    have a5 : (i : Int) < (l.length : Int) := by omega
    have ih' := ih k (i + 1) (by omega) (by omega)
    have f1 := fold_runes s (by omega)
    have f2 := ref_fold s (by omega) k (by omega)
    have f3 := text_runes s (by omega)
    have f4 := ref_text s (by omega) k (by omega)
    rw [f3] at f4
    have z1 := runesOf_length s
    have z2 : ((sgnOf s).map (fun p => p.1) ++ [(s.size : Int)]).length ≤ s.size + 1 := by
      have := sgn_length s.size (bytesOf s) 0
      rw [bytesOf_length] at this
      unfold sgnOf
      rw [List.length_append, List.length_map, List.length_singleton]
      omega
    have e2 : (sgnOf s).map (fun p => runeP p.2) = runesOf s := rfl
    rw [e2] at f2
    generalize (sgnOf s).map (fun p => p.1) ++ [(s.size : Int)] = o at f1 f2 z2
    generalize runesOf s = r at f1 f2 f3 f4 z1
    generalize strOfNums (r.flatMap Lib.encodeRuneZ) = t at f3 f4
    have i1 := ints_ok r r (by omega) k (by omega)
    have i2 := ints_ok o o (by omega) k (by omega)
    simp only [interlocutorlaw3_FoldAll.l0]
    rw [if_pos a3, if_pos a4, if_pos a5, e1, f1, Option.bind_some, f2, Option.bind_some]
    dsimp only
    rw [i1, Option.bind_some, decide_eq_true rfl, if_pos rfl, i2, Option.bind_some, decide_eq_true rfl, if_pos rfl, f3, Option.bind_some, f4, Option.bind_some, if_pos rfl, wrap_succ i a0]
    exact ih'
theorem FoldAll : interlocutorlaw3_FoldAll.Pure := by
  intro l0 l1 a2 _ _ _ _ _ hw _
  obtain ⟨k, hk⟩ : ∃ k : Nat, k = 20000 := ⟨_, rfl⟩
  refine ⟨k + 1, ?_⟩
  unfold interlocutorlaw3_FoldAll.f
  rw [known_k _ (by omega), Option.bind_some, if_pos rfl]
  have jt : interlocutorlaw3_FoldAll.j0 (k + 1) l0 l1 a2 true = some true := by
    simp only [interlocutorlaw3_FoldAll.j0]
    rw [if_pos trivial]
  by_cases c : (l1.length : Int) > 60
  · rw [if_pos c]
    exact jt
  rw [if_neg c]
  by_cases c2 : (a2.size : Int) > 200
  · rw [decide_eq_true c2]
    exact jt
  rw [decide_eq_false c2]
  obtain ⟨s, hs, hz⟩ := signs_ok l0 l1 (by omega) k (by omega)
  have hb : (strOfNums l1).size ≤ 60 := by rw [nums_size]; omega
  have ha : a2.size ≤ 200 := by omega
  have := fun y (hy : y = [s, strOfNums l1, a2]) => all_loop y (by rw [hy]; rfl) (by
    intro x hx
    rw [hy] at hx
    simp only [List.mem_cons, List.not_mem_nil, or_false] at hx
    rcases hx with rfl | rfl | rfl <;> omega) 3 k 0 (by rw [hy]; rfl) (by omega)
  simp only [interlocutorlaw3_FoldAll.j0]
  rw [if_neg (by simp), hs, Option.bind_some]
  exact this _ rfl
end Go.Proofs.Ytmpmjghhikdefaa.Pure
