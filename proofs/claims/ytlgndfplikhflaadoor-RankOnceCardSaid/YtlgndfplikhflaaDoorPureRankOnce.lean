/- RankOnce holds for every input: a value that is there many times is there once, with its least cost. No condition. -/
import Derived.Test.YtlgndfplikhflaaDoorPlain10b
import Derived.Test.YtlgndfplikhflaaDoorGx22
import Derived.Test.YtlgndfplikhflaaDoorGx12
namespace Go.Proofs.YtlgndfplikhflaaDoor.Pure
open Go.RowKit Go.Proofs.YtlgndfplikhflaaDoor.G Go.Proofs.YtlgndfplikhflaaDoorW.PrintWords Go.Proofs.YtlgndfplikhflaaDoorW.PrintLast Go.Proofs.YtlgndfplikhflaaDoorW.PrintMore Go.Proofs.YtlgndfplikhflaaDoor.Plain
set_option linter.unusedVariables false
set_option linter.unusedSimpArgs false
theorem lea_spec (cs : List Int) : ∀ i, 0 < i → (∃ j, j < i ∧ cs.getD j 0 = lea cs i) ∧ ∀ j, j < i → lea cs i ≤ cs.getD j 0 := by
  intro i
  induction i with
  | zero => intro h; omega
  | succ i ih =>
    intro _
    unfold lea
    by_cases h : i = 0 ∨ cs.getD i 0 < lea cs i
    · rw [if_pos h]
      refine ⟨⟨i, by omega, rfl⟩, fun j hj => ?_⟩
      rcases Nat.lt_or_ge j i with hji | hji
      · have hp : 0 < i := by omega
        have := (ih hp).2 j hji
        rcases h with h | h
        · omega
        · omega
      · obtain rfl : j = i := by omega
        exact Int.le_refl _
    · rw [if_neg h]
      have hp : 0 < i := by omega
      obtain ⟨⟨j, hj, he⟩, h2⟩ := ih hp
      refine ⟨⟨j, by omega, he⟩, fun q hq => ?_⟩
      rcases Nat.lt_or_ge q i with hji | hji
      · exact h2 q hji
      · obtain rfl : q = i := by omega
        omega
theorem once_mem (v : Int) (F cs : List Int) (x : S36) : x ∈ onceRows v F cs ↔ ∃ j, j < cs.length ∧ x = (⟨⟨v, F⟩, cs.getD j 0⟩ : S36) := by
  unfold onceRows
  rw [List.mem_map]
  constructor
  · rintro ⟨c, hc, rfl⟩
    obtain ⟨j, hj, rfl⟩ := List.mem_iff_getElem.1 hc
    exact ⟨j, hj, by rw [List.getD_eq_getElem?_getD, List.getElem?_eq_getElem hj]; rfl⟩
  · rintro ⟨j, hj, rfl⟩
    exact ⟨cs[j], List.getElem_mem hj, by rw [List.getD_eq_getElem?_getD, List.getElem?_eq_getElem hj]; rfl⟩
theorem once_best (v : Int) (F cs : List Int) (h : 0 < cs.length) : rkBest (onceRows v F cs) = [(⟨⟨v, F⟩, lea cs cs.length⟩ : S36)] := by
  obtain ⟨⟨j, hj, he⟩, h2⟩ := lea_spec cs cs.length h
  refine (YtlgndfplikhflaaDoorW.Rk.best_of cmpV_tot valcost_ext (onceRows v F cs) _ (List.pairwise_singleton _ _) fun x => ?_).symm
  rw [List.mem_singleton]
  unfold YtlgndfplikhflaaDoorW.Rk.isMin
  constructor
  · rintro rfl
    refine ⟨(once_mem v F cs _).2 ⟨j, hj, by rw [he]⟩, fun y hy _ => ?_⟩
    obtain ⟨q, hq, rfl⟩ := (once_mem v F cs _).1 hy
    exact h2 q hq
  · rintro ⟨hx, hm⟩
    obtain ⟨q, hq, rfl⟩ := (once_mem v F cs _).1 hx
    have h3 := hm _ ((once_mem v F cs _).2 ⟨j, hj, rfl⟩) rfl
    have h4 := h2 q hq
    unfold rcostOf at h3
    simp only at h3
    rw [he] at h3
    have : cs.getD q 0 = lea cs cs.length := by omega
    rw [this]
theorem RankOnce : interlocutorlaw10_RankOnce.Pure := by
  intro n l hn _ hw _
  obtain ⟨v, F, hv, iv, iF, lF⟩ := value_ok n n n
  refine ⟨100, if_pos ⟨v, F, (l.take 30).map (fun x => (interlocutorlaw10_within.f x 1000).getD 0), hv 100 (by decide), by rw [List.length_map, List.length_take, Nat.min_comm], fun i hi => ?_, ?_, ?_⟩⟩
  · rw [List.length_map, List.length_take] at hi
    have hil : i < l.length := by omega
    obtain ⟨r, hr, _, _⟩ := within_ok (rd l (i : Int)) 1000 (by decide) (by decide)
    have hrd : rd l (i : Int) = l[i] := by
      unfold rd
      rw [Int.toNat_natCast, List.getD_eq_getElem?_getD, List.getElem?_eq_getElem hil]
      rfl
    have he : ((l.take 30).map (fun x => (interlocutorlaw10_within.f x 1000).getD 0)).getD i 0 = (interlocutorlaw10_within.f (l[i]) 1000).getD 0 := by
      rw [List.getD_eq_getElem?_getD, List.getElem?_map, List.getElem?_take_of_lt (by omega), List.getElem?_eq_getElem hil]
      rfl
    rw [he, ← hrd, hr]
    rfl
  · have hlen : ((l.take 30).map (fun x => (interlocutorlaw10_within.f x 1000).getD 0)).length ≤ 30 := by rw [List.length_map, List.length_take]; omega
    generalize (l.take 30).map (fun x => (interlocutorlaw10_within.f x 1000).getD 0) = cs at hlen ⊢
    have hr : (onceRows v F cs).length = cs.length := by simp [onceRows]
    rw [rank_Best.f_is _ 9 (by omega) (fun r hr => by obtain ⟨j, _, rfl⟩ := (once_mem v F cs r).1 hr; exact okS_R ⟨iv, iF, lF⟩), bestOf_cut _ 9 (by decide)]
    by_cases h0 : cs.length = 0
    · obtain rfl := List.eq_nil_of_length_eq_zero h0
      have hb : rkBest (onceRows v F []) = [] := List.eq_nil_of_length_eq_zero (by have := best_len (onceRows v F []); simpa [onceRows] using this)
      rw [hb]
      show some _ = some (if (0 : Nat) = 0 then _ else _)
      rw [if_pos rfl]
      rfl
    · rw [if_neg h0, once_best v F cs (by omega)]
      rfl
  · have h := Cmp_eq v v F F (by omega) 100 (by omega)
    rw [h, (cmpV_zero _ _).2 rfl]
end Go.Proofs.YtlgndfplikhflaaDoor.Pure
