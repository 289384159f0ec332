/- RankOrder holds for every input: best readings rise by cost, then by value; none twice; each costs the least that it did; cut off earlier they are a front. No condition. -/
import Derived.Test.YtlgndfplikhflaaDoorPlain10b
import Derived.Test.YtlgndfplikhflaaDoorGx21
import Derived.Test.YtlgndfplikhflaaDoorGx12
namespace Go.Proofs.YtlgndfplikhflaaDoor.Pure
open Go.RowKit Go.Proofs.YtlgndfplikhflaaDoor.G Go.Proofs.YtlgndfplikhflaaDoorW.PrintWords Go.Proofs.YtlgndfplikhflaaDoorW.PrintLast Go.Proofs.YtlgndfplikhflaaDoorW.PrintMore Go.Proofs.YtlgndfplikhflaaDoor.Plain
set_option linter.unusedVariables false
set_option linter.unusedSimpArgs false
theorem order_l1 (l a : List S36) (hl : l.length ≤ 1000) (ha : a.length ≤ 1000) (hs : ∀ x ∈ l, okS x) (i : Nat) (hi : i < a.length) (h1 : rd_T36 a (i : Int) ∈ l) (h2 : ∀ y ∈ l, rvalOf y = rvalOf (rd_T36 a (i : Int)) → rcostOf (rd_T36 a (i : Int)) ≤ rcostOf y) :
    ∀ (n j : Nat), j + n = l.length → ∀ (k : Nat) (there : Bool), n + 40 ≤ k → (there = true ∨ rd_T36 a (i : Int) ∈ l.drop j) → interlocutorlaw10_RankOrder.l1 k l a (i : Int) there (j : Int) = interlocutorlaw10_RankOrder.l0 (k - n - 1) l a ((i + 1 : Nat) : Int) := by
  intro n
  induction n with
  | zero =>
    intro j hj k there hk ht
    obtain ⟨k, rfl⟩ : ∃ q, k = q + 1 := ⟨k - 1, by omega⟩
    have ht2 : there = true := by
      rcases ht with h | h
      · exact h
      · rw [List.drop_of_length_le (by omega)] at h
        cases h
    simp only [interlocutorlaw10_RankOrder.l1]
    rw [if_neg (by omega), if_pos ht2, Plain.wrap_small i (by omega)]
    rfl
  | succ n ih =>
    intro j hj k there hk ht
    obtain ⟨k, rfl⟩ : ∃ q, k = q + 1 := ⟨k - 1, by omega⟩
    have hjl : j < l.length := by omega
    have hx := mem36 l j hjl
    have hd := drop36 l j hjl
    rw [hd] at ht
    have e : k + 1 - (n + 1) - 1 = k - n - 1 := by omega
    simp only [interlocutorlaw10_RankOrder.l1]
    rw [if_pos (by omega), if_pos (by omega), if_pos (by omega), if_pos (by omega), cmp_at _ _ _ (hs _ hx).2.2 k (by omega), Option.bind_some, Plain.wrap_small j (by omega), e]
    generalize rd_T36 l (j : Int) = x at *
    generalize rd_T36 a (i : Int) = y at *
    by_cases h0 : cmpV (rvalOf x) (y.f0.f0, y.f0.f1) = 0
    · have hv : rvalOf x = rvalOf y := (cmpV_zero _ _).1 h0
      have hc : ¬ x.f1 < y.f1 := by
        have := h2 x hx hv
        unfold rcostOf at this
        omega
      rw [if_pos h0]
      by_cases hth : there = true
      · rw [if_pos hth, if_neg hc]
        exact ih (j + 1) (by omega) k true (by omega) (Or.inl rfl)
      · rw [if_neg hth, if_neg hc]
        refine ih (j + 1) (by omega) k _ (by omega) ?_
        rcases ht with h | h
        · exact absurd h hth
        · rcases List.mem_cons.1 h with h | h
          · exact Or.inl (by rw [h]; exact beq_self_eq_true _)
          · exact Or.inr h
    · rw [if_neg h0]
      refine ih (j + 1) (by omega) k there (by omega) ?_
      rcases ht with h | h
      · exact Or.inl h
      · rcases List.mem_cons.1 h with h | h
        · exact absurd ((cmpV_zero _ _).2 (by rw [h]; rfl)) h0
        · exact Or.inr h
theorem order_l0 (l a : List S36) (hl : l.length ≤ 1000) (ha : a.length ≤ 1000) (hs : ∀ x ∈ l, okS x) (h1 : ∀ x ∈ a, x ∈ l ∧ ∀ y ∈ l, rvalOf y = rvalOf x → rcostOf x ≤ rcostOf y) (h2 : a.Pairwise (YtlgndfplikhflaaDoorW.Rk.rlt cmpV rvalOf rcostOf)) :
    ∀ (n i : Nat), i + n = a.length → ∀ k, n * (l.length + 3) + 50 ≤ k → interlocutorlaw10_RankOrder.l0 k l a (i : Int) = some true := by
  intro n
  induction n with
  | zero =>
    intro i hi k hk
    obtain ⟨k, rfl⟩ : ∃ q, k = q + 1 := ⟨k - 1, by omega⟩
    simp only [interlocutorlaw10_RankOrder.l0]
    rw [if_neg (by omega)]
  | succ n ih =>
    intro i hi k hk
    rw [Nat.succ_mul] at hk
    obtain ⟨k, rfl⟩ : ∃ q, k = q + 2 := ⟨k - 2, by omega⟩
    have hia : i < a.length := by omega
    have hm := h1 _ (mem36 a i hia)
    have hj2 : interlocutorlaw10_RankOrder.j2 (k + 1) l a (i : Int) false = some true := by
      simp only [interlocutorlaw10_RankOrder.j2]
      have h := order_l1 l a hl ha hs i hia hm.1 hm.2 l.length 0 (by omega) k false (by omega) (Or.inr (by rw [List.drop_zero]; exact hm.1))
      rw [if_neg (by decide)]
      refine h.trans ?_
      exact ih (i + 1) (by omega) _ (by omega)
    simp only [interlocutorlaw10_RankOrder.l0]
    rw [if_pos (by omega)]
    rcases i with _ | q
    · rw [if_neg (by omega)]
      exact hj2
    · have hw : wrap64 (((q + 1 : Nat) : Int) - 1) = (q : Int) := by unfold wrap64; omega
      have hr : YtlgndfplikhflaaDoorW.Rk.rlt cmpV rvalOf rcostOf (rd_T36 a (q : Int)) (rd_T36 a ((q + 1 : Nat) : Int)) := by
        rw [rd36 a q (by omega), rd36 a (q + 1) hia]
        exact List.pairwise_iff_getElem.1 h2 q (q + 1) (by omega) hia (by omega)
      rw [hw, if_pos (by omega), if_pos (by omega), if_pos (by omega), if_pos (by omega)]
      have hsq := hs _ (h1 _ (mem36 a q (by omega))).1
      unfold YtlgndfplikhflaaDoorW.Rk.rlt rcostOf at hr
      rw [if_neg (by omega)]
      by_cases he : (rd_T36 a (q : Int)).f1 = (rd_T36 a ((q + 1 : Nat) : Int)).f1
      · rw [if_pos he, cmp_at _ _ _ hsq.2.2 (k + 1) (by omega), Option.bind_some]
        have hlt : cmpV (rvalOf (rd_T36 a (q : Int))) ((rd_T36 a ((q + 1 : Nat) : Int)).f0.f0, (rd_T36 a ((q + 1 : Nat) : Int)).f0.f1) < 0 := by
          rcases hr with h | h
          · omega
          · exact h.2
        rw [decide_eq_false (by omega)]
        exact hj2
      · rw [if_neg he]
        exact hj2
theorem RankOrder : interlocutorlaw10_RankOrder.Pure := by
  intro ns most hn _ _ _
  obtain ⟨l, g1, g2, g3⟩ := mk_ok ns 40 (by decide) hn
  obtain ⟨t, ht, t0, t1⟩ := within_ok most 50 (by decide) (by decide)
  have hbl := best_len l
  have e1 : rank_Best.f l 1000 = some (rkBest l, false) := by
    rw [rank_Best.f_is l 1000 (by omega) (fun r hr => okS_R (g3 r hr)), bestOf_cut l 1000 (by decide)]
    unfold cutTo
    rw [if_neg (by omega)]
  have e2 : rank_Best.f l t = some (cutTo t (rkBest l)) := by
    rw [rank_Best.f_is l t (by omega) (fun r hr => okS_R (g3 r hr)), bestOf_cut l t t0]
  have hmem : ∀ x ∈ rkBest l, x ∈ l ∧ ∀ y ∈ l, rvalOf y = rvalOf x → rcostOf x ≤ rcostOf y := fun x hx => (YtlgndfplikhflaaDoorW.Rk.best_mem cmpV_tot valcost_ext l x).1 hx
  have hris := YtlgndfplikhflaaDoorW.Rk.best_rising (v := rvalOf) (k := rcostOf) cmpV_tot l
  have hoks : ∀ x ∈ rkBest l, okS x := fun x hx => g3 x (best_sub l x hx)
  refine ⟨20000, ?_⟩
  unfold interlocutorlaw10_RankOrder.f
  rw [show interlocutorlaw10_known.f = some true from rfl, Option.bind_some, if_pos rfl, show (40 : Int) = ((40 : Nat) : Int) from rfl, g1 20000 (by decide), Option.bind_some, e1, Option.bind_some, ht, Option.bind_some, e2, Option.bind_some]
  have hfin : interlocutorlaw10_RankOrder.j0 20000 l (rkBest l) false = some true := by
    show interlocutorlaw10_RankOrder.j0 (19999 + 1) l (rkBest l) false = some true
    simp only [interlocutorlaw10_RankOrder.j0]
    rw [if_neg (by decide)]
    have hb : (rkBest l).length * (l.length + 3) ≤ 40 * 43 := Nat.mul_le_mul (by omega) (by omega)
    exact order_l0 l (rkBest l) (by omega) (by omega) g3 hmem hris (rkBest l).length 0 (by omega) 19999 (by omega)
  generalize rkBest l = a at *
  have hc2 : (cutTo t a).2 = decide ((a.length : Int) > t) := by
    unfold cutTo
    by_cases h : (a.length : Int) > t
    · rw [if_pos h, decide_eq_true h]
    · rw [if_neg h, decide_eq_false h]
  have hc1 : (cutTo t a).1 = a.take (mn t (a.length : Int)).toNat := by
    unfold cutTo
    by_cases h : (a.length : Int) > t
    · rw [if_pos h, show mn t (a.length : Int) = t by unfold mn; split <;> omega]
    · rw [if_neg h, show (mn t (a.length : Int)).toNat = a.length by unfold mn; split <;> omega, List.take_length]
  have hm0 : 0 ≤ mn t (a.length : Int) := by unfold mn; split <;> omega
  have hm1 : mn t (a.length : Int) ≤ (a.length : Int) := by unfold mn; split <;> omega
  rw [if_neg (show ¬ (a, false).2 = true from Bool.false_ne_true), hc2, hc1]
  simp only [bne_self_eq_false]
  rw [if_neg (by decide), if_pos hm0, if_pos hm1, same_ok _ (by rw [List.length_take]; omega) (fun x hx => hoks x (List.mem_of_mem_take hx)) 20000 (by rw [List.length_take]; omega), Option.bind_some]
  exact hfin
end Go.Proofs.YtlgndfplikhflaaDoor.Pure
