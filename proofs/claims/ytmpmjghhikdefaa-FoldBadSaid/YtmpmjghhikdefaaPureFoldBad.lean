/- FoldBad holds for every input: a byte that begins no sign, or is not followed as it must be, is FFFD by itself; what is behind is read anew. No condition. -/
import Derived.Test.YtmpmjghhikdefaaPlain3g
import Derived.Test.YtmpmjghhikdefaaGx21
namespace Go.Proofs.Ytmpmjghhikdefaa.Pure
open Go.RowKit Go.Proofs.Ytmpmjghhikdefaa.G Go.Proofs.YtmpmjghhikdefaaW.PrintWords Go.Proofs.YtmpmjghhikdefaaW.PrintLast Go.Proofs.YtmpmjghhikdefaaW.PrintMore Go.Proofs.Ytmpmjghhikdefaa.Plain
set_option linter.unusedVariables false
set_option linter.unusedSimpArgs false
theorem sgn_more : ∀ (f g : Nat) (l : List Int) (p : Int), l.length ≤ f → l.length ≤ g → sgn f l p = sgn g l p
  | 0, g, l, p, h, _ => by
    have : l = [] := List.eq_nil_of_length_eq_zero (by omega)
    subst this
    rw [sgn_nil, sgn_nil]
  | f + 1, 0, l, p, _, h => by
    have : l = [] := List.eq_nil_of_length_eq_zero (by omega)
    subst this
    rw [sgn_nil, sgn_nil]
  | f + 1, g + 1, l, p, hf, hg => by
    simp only [sgn]
    by_cases hl : 0 < l.length
    · have hw := decL_len l hl
      rw [if_pos hl, if_pos hl, sgn_more f g _ _ (by rw [List.length_drop]; omega) (by rw [List.length_drop]; omega)]
    · rw [if_neg hl, if_neg hl]
theorem sgn_shift : ∀ (f : Nat) (l : List Int) (p q : Int), (sgn f l p).map (fun x => runeP x.2) = (sgn f l q).map (fun x => runeP x.2)
  | 0, _, _, _ => rfl
  | f + 1, l, p, q => by
    simp only [sgn]
    by_cases hl : 0 < l.length
    · rw [if_pos hl, if_pos hl, List.map_cons, List.map_cons, sgn_shift f _ _ (q + (decL l).2)]
    · rw [if_neg hl, if_neg hl]
theorem runes_z (s : ByteArray) : runesOf (⟨#[122]⟩ ++ s) = 122 :: runesOf s := by
  unfold runesOf sgnOf
  rw [bytes_append, app_size]
  have e1 : bytesOf ⟨#[122]⟩ = [122] := by decide +kernel
  have e2 : (⟨#[122]⟩ : ByteArray).size = 1 := rfl
  rw [e1, e2, Nat.add_comm 1]
  simp only [sgn]
  have hd : decL ([122] ++ bytesOf s) = (122, 1) := dec_enc 122 (by unfold Sign; omega) (bytesOf s)
  rw [if_pos (by simp), hd]
  simp only [List.map_cons, List.singleton_append, List.drop_succ_cons, List.drop_zero]
  rw [sgn_shift _ _ _ 0]
  congr 1
theorem FoldBad : interlocutorlaw3_FoldBad.Pure := by
  intro a0 a1 a2 a3 a4 _ _ _ _ _
  obtain ⟨k, hk⟩ : ∃ k : Nat, k = 20000 := ⟨_, rfl⟩
  refine ⟨k, ?_⟩
  unfold interlocutorlaw3_FoldBad.f
  rw [known_k _ (by omega), Option.bind_some, if_pos rfl]
  by_cases c : (a4.size : Int) > 60
  · rw [if_pos c]
  rw [if_neg c, Option.bind_some]
  have z0 : (strOfNums [a0, a1, a2, a3]).size = 4 := by rw [nums_size]; rfl
  have z1 := app_size (strOfNums [a0, a1, a2, a3]) a4
  rw [if_pos (by omega)]
  generalize strOfNums [a0, a1, a2, a3] ++ a4 = s at z1 ⊢
  have zz := app_size ⟨#[122]⟩ s
  have z3 : (⟨#[122]⟩ : ByteArray).size = 1 := rfl
  have f1 := fold_runes s (by omega)
  have f2 := ref_fold s (by omega) k (by omega)
  have f3 := fold_runes (⟨#[122]⟩ ++ s) (by omega)
  rw [runes_z] at f3
  have y1 := runesOf_length s
  have y2 : ((sgnOf s).map (fun p => p.1) ++ [(s.size : Int)]).length ≤ s.size + 1 := by
    have := sgn_length s.size (bytesOf s) 0
    rw [bytesOf_length] at this
    unfold sgnOf
    rw [List.length_append, List.length_map, List.length_singleton]
    omega
  have e2 : (sgnOf s).map (fun p => runeP p.2) = runesOf s := rfl
  rw [e2] at f2
  generalize (sgnOf s).map (fun p => p.1) ++ [(s.size : Int)] = o at f1 f2 y2
  generalize (sgnOf (⟨#[122]⟩ ++ s)).map (fun p => p.1) ++ [((⟨#[122]⟩ ++ s : ByteArray).size : Int)] = o3 at f3
  generalize runesOf s = r at f1 f2 f3 y1
  have i1 := ints_ok r r (by omega) k (by omega)
  have i2 := ints_ok o o (by omega) k (by omega)
  have hl : ((122 :: r : List Int).length : Int) = (r.length : Int) + 1 := by simp
  rw [f1, Option.bind_some, f2, Option.bind_some, if_pos (by omega), f3, Option.bind_some]
  dsimp only
  rw [i1, Option.bind_some, decide_eq_true rfl, if_pos rfl, i2, Option.bind_some, decide_eq_true rfl, if_pos rfl, hl, wrapIn _ (by omega) (by omega), if_pos rfl, if_pos (by omega)]
  rw [show (122 :: r : List Int).drop 1 = r from rfl, i1, Option.bind_some, decide_eq_true rfl, if_pos rfl, if_pos (by omega)]
  rfl
end Go.Proofs.Ytmpmjghhikdefaa.Pure
