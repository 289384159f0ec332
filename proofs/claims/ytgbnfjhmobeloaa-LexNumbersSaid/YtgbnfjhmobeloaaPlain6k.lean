/- Plain facts on lex.Tokens: rows that are in order already are their own tokens. -/
import Derived.Test.YtgbnfjhmobeloaaGx13
namespace Go.Proofs.Ytgbnfjhmobeloaa.Plain
open Go.RowKit Go.Proofs.Ytgbnfjhmobeloaa.G Go.Proofs.YtgbnfjhmobeloaaW.PrintWords Go.Proofs.YtgbnfjhmobeloaaW.PrintLast Go.Proofs.YtgbnfjhmobeloaaW.PrintMore
set_option linter.unusedVariables false
set_option linter.unusedSimpArgs false
theorem fm_congr {α β : Type} {f g : α → Option β} : ∀ (l : List α), (∀ x ∈ l, f x = g x) → l.filterMap f = l.filterMap g
  | [], _ => rfl
  | x :: xs, h => by rw [List.filterMap_cons, List.filterMap_cons, h x (List.mem_cons_self ..), fm_congr xs (fun y hy => h y (List.mem_cons_of_mem _ hy))]
/-- Strictly ahead of. -/
def ltT (x y : S47) : Prop := cmpT x y < 0
instance (x y : S47) : Decidable (ltT x y) := inferInstanceAs (Decidable (_ < _))
theorem cmpI_self (a : Int) : cmpI a a = 0 := by unfold cmpI; rw [if_neg (by omega), if_neg (by omega)]
theorem cmpT_self (x : S47) : cmpT x x = 0 := by unfold cmpT or2; simp only [cmpI_self, if_true]
theorem cmpI_anti (a b : Int) : cmpI b a = - cmpI a b := by
  unfold cmpI
  repeat' split
  all_goals omega
theorem cmpT_anti (x y : S47) : cmpT y x = - cmpT x y := by
  unfold cmpT or2
  rw [cmpI_anti x.f0 y.f0, cmpI_anti x.f1 y.f1, cmpI_anti x.f2 y.f2, cmpI_anti x.f3 y.f3, cmpI_anti x.f4 y.f4]
  repeat' split
  all_goals omega
theorem ltT_f0 {x y : S47} (h : x.f0 < y.f0) : ltT x y := by
  unfold ltT cmpT or2
  have e : cmpI x.f0 y.f0 = -1 := if_pos h
  rw [e, if_neg (by omega)]
  omega
theorem sort_of_lt {l : List S47} (h : l.Pairwise ltT) : sortT l = l := by
  unfold sortT
  refine List.mergeSort_of_pairwise (h.imp ?_)
  intro a b hab
  have e := cmpT_anti a b
  unfold ltT at hab
  show (!(decide (cmpT b a < 0))) = true
  rw [decide_eq_false (by omega)]
  rfl
theorem dedup_of_lt : ∀ {l : List S47}, l.Pairwise ltT → dedup l = l
  | [], _ => rfl
  | [_], _ => rfl
  | x :: y :: l, h => by
    have h1 := List.pairwise_cons.1 h
    have hne : ¬ sameT x y = true := fun e => by
      have hxy := h1.1 y (List.mem_cons_self ..)
      rw [(sameT_iff x y).1 e] at hxy
      unfold ltT at hxy
      rw [cmpT_self] at hxy
      omega
    rw [show dedup (x :: y :: l) = if sameT x y = true then dedup (y :: l) else x :: dedup (y :: l) from rfl, if_neg hne, dedup_of_lt h1.2]
theorem tok_of_lt {lex : List S53} {l : List Int} (h : (rawF l (wordsF lex) l.length).Pairwise ltT) : tokF lex l = rawF l (wordsF lex) l.length := by
  unfold tokF
  rw [sort_of_lt h, dedup_of_lt h]
/-- Without words there is one sign at most at each place. -/
theorem digit_range {r : Int} (h : isDigit r = true) : 48 ≤ r ∧ r ≤ 57 := by
  unfold isDigit at h
  rw [Bool.and_eq_true, decide_eq_true_eq, decide_eq_true_eq] at h
  exact h
theorem digit_mark (r : Int) (h : isDigit r = true) : markAt r = -1 := by
  obtain ⟨h1, h2⟩ := digit_range h
  obtain h' : r = 48 ∨ r = 49 ∨ r = 50 ∨ r = 51 ∨ r = 52 ∨ r = 53 ∨ r = 54 ∨ r = 55 ∨ r = 56 ∨ r = 57 := by omega
  rcases h' with rfl | rfl | rfl | rfl | rfl | rfl | rfl | rfl | rfl | rfl <;> decide +kernel
/-- The sign at a place, without words. -/
def oneAt (l : List Int) (i : Nat) : Option S47 := if i < l.length then (if isDigit (l.getD i 0) = true then numTok l i else markTok l i) else none
theorem signs_one (l : List Int) (i : Nat) : signsAt l [] i = (oneAt l i).toList := by
  unfold signsAt oneAt
  by_cases hi : i < l.length
  · rw [if_pos hi, if_pos hi]
    have eg : l.getD i 0 = l[i] := by rw [List.getD_eq_getElem?_getD, List.getElem?_eq_getElem hi]; rfl
    by_cases hd : isDigit (l.getD i 0) = true
    · have em : markTok l i = none := by
        unfold markTok
        rw [digit_mark _ hd]
        rfl
      rw [if_pos hd, em]
      simp
    · have en : numTok l i = none := by
        unfold numTok
        rw [if_pos (Or.inl (pastF_no isDigit l i hi (by rw [eg] at hd; simpa using hd)))]
      rw [if_neg hd, en]
      simp
  · rw [if_neg hi, if_neg hi]
    rfl
def oneFrom (l : List Int) (p : Nat) : Option S47 := (oneAt l (pastF isBlank l p)).map (atP (p : Int))
theorem raw_one (l : List Int) (p : Nat) : rawAt l [] p = (oneFrom l p).toList := by
  unfold rawAt oneFrom
  rw [signs_one]
  cases oneAt l (pastF isBlank l p) <;> rfl
theorem rawF_one (l : List Int) (n : Nat) : rawF l [] n = (List.range n).filterMap (oneFrom l) := by
  unfold rawF
  induction List.range n with
  | nil => rfl
  | cons p ps ih =>
    rw [List.flatMap_cons, ih, raw_one, List.filterMap_cons]
    cases oneFrom l p <;> rfl
theorem oneFrom_f0 {l : List Int} {p : Nat} {x : S47} (h : oneFrom l p = some x) : x.f0 = p := by
  unfold oneFrom at h
  cases e : oneAt l (pastF isBlank l p) with
  | none => rw [e] at h; cases h
  | some y => rw [e] at h; cases h; rfl
theorem ones_lt (l : List Int) (n : Nat) : ((List.range n).filterMap (oneFrom l)).Pairwise ltT := by
  rw [List.pairwise_filterMap]
  refine List.pairwise_lt_range.imp ?_
  intro a b hab x hx y hy
  refine ltT_f0 ?_
  rw [oneFrom_f0 hx, oneFrom_f0 hy]
  omega
/-- lex.Tokens, without words. -/
theorem tok_none (l : List Int) : tokF [] l = (List.range l.length).filterMap (oneFrom l) := by
  have e : rawF l (wordsF []) l.length = (List.range l.length).filterMap (oneFrom l) := rawF_one l l.length
  rw [tok_of_lt (by rw [e]; exact ones_lt l _), e]
theorem tokens_none (a : ByteArray) (b c : Int) (r : List S108) (s : List S138) (l : List Int) (h : l.length ≤ 1000000) : lex_Tokens.f a b c [] r s l = some ((List.range l.length).filterMap (oneFrom l)) := by
  rw [lex_Tokens.f_is a b c [] r s l h (by simp) (fun e he => by cases he), tok_none]
end Go.Proofs.Ytgbnfjhmobeloaa.Plain
