/- LexDigits holds for every input: of so many digits those from the last eighteen on are numbers. No condition. -/
import Derived.Test.YtgbnfjhmobeloaaPlain6
import Derived.Test.YtgbnfjhmobeloaaGx17
namespace Go.Proofs.Ytgbnfjhmobeloaa.Pure
open Go.RowKit Go.Proofs.Ytgbnfjhmobeloaa.G Go.Proofs.YtgbnfjhmobeloaaW.PrintWords Go.Proofs.YtgbnfjhmobeloaaW.PrintLast Go.Proofs.YtgbnfjhmobeloaaW.PrintMore Go.Proofs.Ytgbnfjhmobeloaa.Plain
set_option linter.unusedVariables false
set_option linter.unusedSimpArgs false
theorem digit_blank {r : Int} (h : isDigit r = true) : isBlank r = false := by
  obtain ⟨h1, h2⟩ := digit_range h
  unfold isBlank
  exact decide_eq_false (by omega)
theorem take_all (p : Int → Bool) : ∀ l : List Int, (∀ r ∈ l, p r = true) → l.takeWhile p = l
  | [], _ => rfl
  | x :: xs, h => by
    rw [List.takeWhile_cons, h x (List.mem_cons_self ..), if_pos rfl, take_all p xs (fun r hr => h r (List.mem_cons_of_mem _ hr))]
theorem past_all (p : Int → Bool) (l : List Int) (h : ∀ r ∈ l, p r = true) (i : Nat) (hi : i ≤ l.length) : pastF p l i = l.length := by
  unfold pastF
  rw [take_all p _ (fun r hr => h r (List.mem_of_mem_drop hr)), List.length_drop]
  omega
/-- The number from a place on, in a row of digits. -/
def digTok (l : List Int) (p : Nat) : S47 := ⟨(p : Int), (l.length : Nat), 0, numVal (l.drop p), ((l.length - p : Nat) : Int)⟩
theorem dig_one (l : List Int) (h : ∀ r ∈ l, isDigit r = true) (p : Nat) (hp : p < l.length) : oneFrom l p = if 18 < l.length - p then none else some (digTok l p) := by
  have hm : l[p] ∈ l := List.getElem_mem hp
  have eg : l.getD p 0 = l[p] := by rw [List.getD_eq_getElem?_getD, List.getElem?_eq_getElem hp]; rfl
  unfold oneFrom oneAt
  rw [pastF_no isBlank l p hp (digit_blank (h _ hm)), if_pos hp, eg, if_pos (h _ hm)]
  unfold numTok
  rw [past_all isDigit l h p (by omega), List.take_length]
  by_cases c : 18 < l.length - p
  · rw [if_pos (Or.inr c), if_pos c]
    rfl
  · rw [if_neg (by omega), if_neg c]
    rfl
theorem dig_toks (l : List Int) (h : ∀ r ∈ l, isDigit r = true) (m : Nat) (hm : m = min l.length 18) : (List.range l.length).filterMap (oneFrom l) = (List.range m).map (fun j => digTok l (l.length - m + j)) := by
  have e : List.range l.length = List.range (l.length - m) ++ (List.range m).map (fun j => l.length - m + j) := by
    rw [← List.range_add]
    congr 1
    omega
  rw [e, List.filterMap_append, List.filterMap_map]
  have e1 : (List.range (l.length - m)).filterMap (oneFrom l) = [] := by
    rw [List.filterMap_eq_nil_iff]
    intro p hp
    have := List.mem_range.1 hp
    rw [dig_one l h p (by omega), if_pos (by omega)]
  have e2 : (List.range m).filterMap (oneFrom l ∘ fun j => l.length - m + j) = (List.range m).map (fun j => digTok l (l.length - m + j)) := by
    rw [← List.filterMap_eq_map]
    refine fm_congr _ fun j hj => ?_
    have := List.mem_range.1 hj
    rw [Function.comp_apply, dig_one l h _ (by omega), if_neg (by omega)]
    rfl
  rw [e1, e2, List.nil_append]
theorem dig_loop (n m : Nat) (x7 : Int) (f : Nat → S47) (hn : n ≤ 24) (hm : m = min n 18)
    (hf : ∀ j, j < m → (f j).f0 = ((n - m + j : Nat) : Int) ∧ (f j).f1 = n ∧ (f j).f2 = 0 ∧ (f j).f4 = ((m - j : Nat) : Int)) (h0 : m ≠ 0 → (f 0).f3 = x7) :
    ∀ (d k i : Nat), i + d = m → d < k → interlocutorlaw6_LexDigits.l1 k (n : Int) x7 ((List.range m).map f) (m : Int) (i : Int) = some true := by
  have hg : ∀ i, i < m → rd_T47 ((List.range m).map f) (i : Int) = f i := fun i hi => by
    rw [rdT_get _ i (by simpa using hi)]
    simp
  intro d
  induction d with
  | zero =>
    intro k i hi hk
    obtain ⟨k, rfl⟩ : ∃ m, k = m + 1 := ⟨k - 1, by omega⟩
    simp only [interlocutorlaw6_LexDigits.l1]
    rw [if_neg (by omega)]
    by_cases c : m = 0
    · rw [if_pos (by omega)]
    · have e := hg 0 (by omega)
      rw [show ((0 : Nat) : Int) = 0 from rfl] at e
      rw [if_neg (by omega), if_pos (by rw [List.length_map, List.length_range]; omega), e, h0 c]
      simp
  | succ d ih =>
    intro k i hi hk
    obtain ⟨k, rfl⟩ : ∃ m, k = m + 1 := ⟨k - 1, by omega⟩
    obtain ⟨g0, g1, g2, g4⟩ := hf i (by omega)
    have w1 : wrap64 (wrap64 ((n : Int) - (m : Int)) + (i : Int)) = ((n - m + i : Nat) : Int) := by
      rw [wrapIn ((n : Int) - (m : Int)) (by omega) (by omega), wrapIn _ (by omega) (by omega)]
      omega
    have w2 : wrap64 ((m : Int) - (i : Int)) = ((m - i : Nat) : Int) := by
      rw [wrapIn _ (by omega) (by omega)]
      omega
    have hlen : (((List.range m).map f).length : Int) = m := by rw [List.length_map, List.length_range]
    simp only [interlocutorlaw6_LexDigits.l1]
    rw [if_pos (by omega), if_pos (by omega), if_pos (by omega), hg i (by omega), w1, w2, if_pos g0, if_pos g1, if_pos g4, if_pos g2, wrap_succ i (by omega)]
    exact ih k (i + 1) (by omega) (by omega)
/-- The digit of a place. -/
def dg (a : Int) (i : Nat) : Int := wrap64 (a + wrap64 ((i : Int) * 7)) % 10
def dl (a : Int) (i : Nat) : List Int := (List.range i).map fun j => 48 + dg a j
theorem dg_in (a : Int) (i : Nat) : 0 ≤ dg a i ∧ dg a i ≤ 9 := by unfold dg; omega
theorem dl_succ (a : Int) (i : Nat) : dl a (i + 1) = dl a i ++ [48 + dg a i] := by unfold dl; rw [List.range_succ, List.map_append]; rfl
theorem dl_len (a : Int) (i : Nat) : (dl a i).length = i := by unfold dl; rw [List.length_map, List.length_range]
theorem step_digit (v d : Int) : numStep v (48 + d) = wrap64 (wrap64 (10 * v) + d) := by unfold numStep wrap64; omega
theorem val_snoc (l : List Int) (d : Int) : numVal (l ++ [48 + d]) = wrap64 (wrap64 (10 * numVal l) + d) := by
  unfold numVal
  rw [List.foldl_append, List.foldl_cons, List.foldl_nil, step_digit]
theorem gen_loop (a : Int) (n : Nat) (hn : n ≤ 24) : ∀ (d k i : Nat), i + d = n → d + 60 < k → interlocutorlaw6_LexDigits.l0 k a (n : Int) (dl a i) (numVal ((dl a i).drop (n - 18))) (i : Int) = some true := by
  intro d
  induction d with
  | zero =>
    intro k i hi hk
    obtain ⟨k, rfl⟩ : ∃ m, k = m + 1 := ⟨k - 1, by omega⟩
    obtain rfl : i = n := by omega
    have hd : ∀ r ∈ dl a i, isDigit r = true := by
      intro r hr
      obtain ⟨j, _, rfl⟩ := List.mem_map.1 hr
      have := dg_in a j
      unfold isDigit
      rw [decide_eq_true (by omega), decide_eq_true (by omega)]
      rfl
    have hl := dl_len a i
    obtain ⟨m, hm⟩ : ∃ m, m = min i 18 := ⟨_, rfl⟩
    have hm2 : mn (i : Int) 18 = (m : Int) := by
      unfold mn
      split <;> omega
    simp only [interlocutorlaw6_LexDigits.l0]
    rw [if_neg (by omega), tokens_none _ _ _ _ _ _ (by omega), Option.bind_some, dig_toks _ hd m (by rw [hl]; exact hm), hl, hm2, if_pos (by rw [List.length_map, List.length_range])]
    refine dig_loop i m _ _ hn hm ?_ ?_ m k 0 (by omega) (by omega)
    · intro j hj
      refine ⟨rfl, ?_, rfl, ?_⟩
      · show (((dl a i).length : Nat) : Int) = i
        rw [hl]
      · show (((dl a i).length - (i - m + j) : Nat) : Int) = _
        rw [hl]
        congr 1
        omega
    · intro hm0
      show numVal ((dl a i).drop (i - m + 0)) = _
      rw [show i - m + 0 = i - 18 by omega]
  | succ d ih =>
    intro k i hi hk
    obtain ⟨k, rfl⟩ : ∃ m, k = m + 1 := ⟨k - 1, by omega⟩
    have hg := dg_in a i
    have hw : wrap64 (48 + dg a i) = 48 + dg a i := wrapIn _ (by omega) (by omega)
    have hw2 : wrap64 ((n : Int) - 18) = (n : Int) - 18 := wrapIn _ (by omega) (by omega)
    have hl := dl_len a i
    simp only [interlocutorlaw6_LexDigits.l0]
    rw [if_pos (by omega), within_ok _ 10 (by omega) (by omega), Option.bind_some, if_pos (by omega), Option.bind_some, hw2]
    rw [show wrap64 (a + wrap64 ((i : Int) * 7)) % 10 = dg a i from rfl, hw, ← dl_succ, wrap_succ i (by omega)]
    have ih' := ih k (i + 1) (by omega) (by omega)
    by_cases c : (i : Int) ≥ (n : Int) - 18
    · rw [if_pos c]
      rw [show (dl a (i + 1)).drop (n - 18) = (dl a i).drop (n - 18) ++ [48 + dg a i] by rw [dl_succ, List.drop_append_of_le_length (by omega)], val_snoc] at ih'
      exact ih'
    · rw [if_neg c]
      rw [show (dl a (i + 1)).drop (n - 18) = (dl a i).drop (n - 18) by rw [List.drop_eq_nil_of_le (by rw [dl_len]; omega), List.drop_eq_nil_of_le (by omega)]] at ih'
      exact ih'
theorem LexDigits : interlocutorlaw6_LexDigits.Pure := by
  intro a0 a1 _ _
  obtain ⟨n, hn⟩ : ∃ n : Nat, (n : Int) = a0 % 25 := ⟨(a0 % 25).toNat, by omega⟩
  refine ⟨200, ?_⟩
  unfold interlocutorlaw6_LexDigits.f
  rw [known_k _ (by omega), Option.bind_some, if_pos rfl, within_ok _ 25 (by omega) (by omega), Option.bind_some, ← hn]
  have := gen_loop a1 n (by omega) n 200 0 (by omega) (by omega)
  have e : (dl a1 0).drop (n - 18) = [] := by rw [show dl a1 0 = [] from rfl, List.drop_nil]
  rw [e] at this
  exact this
end Go.Proofs.Ytgbnfjhmobeloaa.Pure
