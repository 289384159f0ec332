/- Readings that are made, their best: in plain words. -/
import Derived.Test.YtlgndfplikhflaaDoorPlain10c
import Derived.Test.YtlgndfplikhflaaDoorPlain10v
import Derived.Test.YtlgndfplikhflaaDoorGx12
import Derived.Test.YtlgndfplikhflaaDoorGx15
import Derived.Test.YtlgndfplikhflaaDoorGx16
namespace Go.Proofs.YtlgndfplikhflaaDoor.Plain
open Go.RowKit Go.Proofs.YtlgndfplikhflaaDoor.G Go.Proofs.YtlgndfplikhflaaDoorW.PrintWords Go.Proofs.YtlgndfplikhflaaDoorW.PrintLast Go.Proofs.YtlgndfplikhflaaDoorW.PrintMore
set_option linter.unusedVariables false
set_option linter.unusedSimpArgs false
abbrev rkAdd := YtlgndfplikhflaaDoorW.Rk.add cmpV rvalOf rcostOf
abbrev rkIns := YtlgndfplikhflaaDoorW.Rk.ins (R := S36) rcostOf
abbrev rkBest := YtlgndfplikhflaaDoorW.Rk.best cmpV rvalOf rcostOf
/-- A reading of the laws: its numbers are numbers, its fields few. -/
def okS (r : S36) : Prop := inR r.f0.f0 ∧ (∀ x ∈ r.f0.f1, inR x) ∧ r.f0.f1.length ≤ 20
theorem okS_R {r : S36} (h : okS r) : okR r := ⟨h.1, h.2.1, by have := h.2.2; omega⟩
theorem rd36 (l : List S36) (i : Nat) (h : i < l.length) : rd_T36 l (i : Int) = l[i] := by
  unfold rd_T36
  rw [Int.toNat_natCast, List.getD_eq_getElem?_getD, List.getElem?_eq_getElem h]
  rfl
theorem drop36 (l : List S36) (i : Nat) (h : i < l.length) : l.drop i = rd_T36 l (i : Int) :: l.drop (i + 1) := by rw [List.drop_eq_getElem_cons h, rd36 l i h]
theorem take36 (l : List S36) (i : Nat) (h : i < l.length) : l.take (i + 1) = l.take i ++ [rd_T36 l (i : Int)] := by rw [rd36 l i h, List.take_add_one, List.getElem?_eq_getElem h]; rfl
theorem mem36 (l : List S36) (i : Nat) (h : i < l.length) : rd_T36 l (i : Int) ∈ l := by rw [rd36 l i h]; exact List.getElem_mem h
theorem wrap_small (i : Nat) (h : i ≤ 1000000) : wrap64 ((i : Int) + 1) = ((i + 1 : Nat) : Int) := by unfold wrap64; omega
theorem cmp_at (x : S36) (a : Int) (F : List Int) (hx : x.f0.f1.length ≤ 20) (k : Nat) (hk : 30 ≤ k) : interlocutorref10_Cmp.f k x.f0.f0 x.f0.f1 a F = some (cmpV (rvalOf x) (a, F)) := refCmp_eq _ _ _ _ (by omega) k (by omega)
def cutTo (m : Int) (out : List S36) : List S36 × Bool := if (out.length : Int) > m then (out.take m.toNat, true) else (out, false)
theorem bestOf_cut (l : List S36) (m : Int) (hm : 0 ≤ m) : bestOf l m = cutTo m (rkBest l) := by
  have hx : mx m 0 = m := by unfold mx; split <;> omega
  unfold bestOf cutTo rkBest
  rw [hx]
  by_cases h : m.toNat < (YtlgndfplikhflaaDoorW.Rk.best cmpV rvalOf rcostOf l).length
  · rw [if_pos h, if_pos (by omega)]
  · rw [if_neg h, if_neg (by omega)]
/-- A row is the same as itself. -/
theorem same_loop (l : List S36) (hl : l.length ≤ 1000) (hs : ∀ x ∈ l, okS x) : ∀ (n i : Nat), i + n = l.length → ∀ k, n + 40 ≤ k → interlocutorref10_Same.l0 k l l (i : Int) = some true := by
  intro n
  induction n with
  | zero =>
    intro i hi k hk
    obtain ⟨k, rfl⟩ : ∃ q, k = q + 1 := ⟨k - 1, by omega⟩
    simp only [interlocutorref10_Same.l0]
    rw [if_neg (by omega)]
  | succ n ih =>
    intro i hi k hk
    obtain ⟨k, rfl⟩ : ∃ q, k = q + 1 := ⟨k - 1, by omega⟩
    have hil : i < l.length := by omega
    simp only [interlocutorref10_Same.l0]
    rw [if_pos (by omega), if_pos (by omega), if_pos (by omega), cmp_at _ _ _ (hs _ (mem36 l i hil)).2.2 k (by omega), Option.bind_some, if_pos (show cmpV (rvalOf (rd_T36 l (i : Int))) ((rd_T36 l (i : Int)).f0.f0, (rd_T36 l (i : Int)).f0.f1) = 0 from (cmpV_zero _ _).2 rfl), if_pos trivial, wrap_small i (by omega)]
    exact ih (i + 1) (by omega) k (by omega)
theorem same_ok (l : List S36) (hl : l.length ≤ 1000) (hs : ∀ x ∈ l, okS x) (k : Nat) (hk : l.length + 40 ≤ k) : interlocutorref10_Same.f k l l = some true := by
  unfold interlocutorref10_Same.f
  rw [if_pos rfl]
  exact same_loop l hl hs l.length 0 (by omega) k hk
/-- Readings that are made are the laws' readings. -/
theorem make_loop (ns : List Int) (M : Nat) (hM : M ≤ 100) (hn : ns.length ≤ maxLen) : ∀ (n i : Nat), i + n = min ns.length M → ∀ out : List S36, out.length = i → (∀ x ∈ out, okS x) →
    ∃ l : List S36, (∀ k, 2 * n + 60 ≤ k → interlocutorlaw10_Make.l0 k ns (M : Int) out (i : Int) = some l) ∧ l.length ≤ M ∧ ∀ x ∈ l, okS x := by
  intro n
  induction n with
  | zero =>
    intro i hi out ho hs
    refine ⟨out, fun k hk => ?_, by omega, hs⟩
    obtain ⟨k, rfl⟩ : ∃ q, k = q + 2 := ⟨k - 2, by omega⟩
    simp only [interlocutorlaw10_Make.l0, interlocutorlaw10_Make.j1]
    by_cases h : (i : Int) < (ns.length : Int)
    · rw [if_pos h, if_neg (by rw [decide_eq_true_iff]; omega)]
    · rw [if_neg h, if_neg (by decide)]
  | succ n ih =>
    intro i hi out ho hs
    have hil : i < ns.length := by omega
    have hiM : i < M := by omega
    obtain ⟨t, ht, t0, t1⟩ := within_ok (rd ns (i : Int)) 1099511627776 (by decide) (by decide)
    obtain ⟨v, F, hv, iv, iF, lF⟩ := value_ok (Int.tmod t 7) (Int.tmod (wrap64 (Int.tdiv t 7)) 40) (Int.tmod (wrap64 (Int.tdiv t 280)) 5)
    obtain ⟨c, hc, c0, c1⟩ := within_ok (wrap64 (Int.tdiv t 1400)) 9 (by decide) (by decide)
    obtain ⟨l, h1, h2, h3⟩ := ih (i + 1) (by omega) (out ++ [(⟨(⟨v, F⟩ : S24), c⟩ : S36)]) (by simp; omega) (by
      intro x hx
      rcases List.mem_append.1 hx with hx | hx
      · exact hs x hx
      · rw [List.mem_singleton] at hx
        subst hx
        exact ⟨iv, iF, lF⟩)
    refine ⟨l, fun k hk => ?_, h2, h3⟩
    obtain ⟨k, rfl⟩ : ∃ q, k = q + 2 := ⟨k - 2, by omega⟩
    simp only [interlocutorlaw10_Make.l0, interlocutorlaw10_Make.j1]
    rw [if_pos (by omega), if_pos (by rw [decide_eq_true_iff]; omega), if_pos (by omega), if_pos (by omega), ht, Option.bind_some, hv k (by omega), Option.bind_some, hc, Option.bind_some, if_pos (by omega), wrap_small i (by omega)]
    exact h1 k (by omega)
theorem mk_ok (ns : List Int) (M : Nat) (hM : M ≤ 100) (hn : ns.length ≤ maxLen) : ∃ l : List S36, (∀ k, 300 ≤ k → interlocutorlaw10_Make.f k ns (M : Int) = some l) ∧ l.length ≤ M ∧ ∀ x ∈ l, okS x := by
  obtain ⟨l, h1, h2, h3⟩ := make_loop ns M hM hn (min ns.length M) 0 (by omega) [] rfl (by simp)
  refine ⟨l, fun k hk => ?_, h2, h3⟩
  unfold interlocutorlaw10_Make.f
  exact h1 k (by omega)
theorem best_len (l : List S36) : (rkBest l).length ≤ l.length := YtlgndfplikhflaaDoorW.Rk.best_length (c := cmpV) (v := rvalOf) (k := rcostOf) l
theorem best_sub (l : List S36) : ∀ x ∈ rkBest l, x ∈ l := fun x hx => ((YtlgndfplikhflaaDoorW.Rk.best_mem cmpV_tot valcost_ext l x).1 hx).1
theorem cut_sub (m : Int) (l : List S36) : ∀ x ∈ (cutTo m l).1, x ∈ l := by
  intro x hx
  unfold cutTo at hx
  split at hx
  · exact List.mem_of_mem_take hx
  · exact hx
theorem cut_len (m : Int) (l : List S36) : (cutTo m l).1.length ≤ l.length := by
  unfold cutTo
  split
  · simp
    omega
  · exact Nat.le_refl _
end Go.Proofs.YtlgndfplikhflaaDoor.Plain
