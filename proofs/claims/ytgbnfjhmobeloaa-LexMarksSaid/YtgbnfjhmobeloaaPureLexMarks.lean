/- LexMarks holds for every input: each mark is a sign of its class, and nothing else is one. No condition. -/
import Derived.Test.YtgbnfjhmobeloaaPlain6
import Derived.Test.YtgbnfjhmobeloaaGx18
namespace Go.Proofs.Ytgbnfjhmobeloaa.Pure
open Go.RowKit Go.Proofs.Ytgbnfjhmobeloaa.G Go.Proofs.YtgbnfjhmobeloaaW.PrintWords Go.Proofs.YtgbnfjhmobeloaaW.PrintLast Go.Proofs.YtgbnfjhmobeloaaW.PrintMore Go.Proofs.Ytgbnfjhmobeloaa.Plain
set_option linter.unusedVariables false
set_option linter.unusedSimpArgs false
theorem mark_table : ∀ r : Fin 127, ∀ j : Fin 11, (decide (((r.val : Nat) : Int) = wrap64 (bt (⟨#[47, 45, 46, 44, 58, 43, 36, 37, 40, 41, 39]⟩ : ByteArray) ((j.val : Nat) : Int)))) = decide (markAt ((r.val : Nat) : Int) = ((j.val : Nat) : Int)) := by decide +kernel
theorem mark_is (r : Int) (h0 : 0 ≤ r) (h1 : r ≤ 126) (j : Nat) (hj : j < 11) : (r = wrap64 (bt (⟨#[47, 45, 46, 44, 58, 43, 36, 37, 40, 41, 39]⟩ : ByteArray) (j : Int))) ↔ markAt r = j := by
  have h := mark_table ⟨r.toNat, by omega⟩ ⟨j, hj⟩
  have e : ((r.toNat : Nat) : Int) = r := by omega
  dsimp only at h
  rw [e] at h
  exact decide_eq_decide.1 h
theorem mark_lt (r : Int) : markAt r < 11 := by
  unfold markAt
  split
  · exact (indexByte_lt marksL _).2
  · omega
def isMark (l : List Int) (p : Nat) : Bool := decide (0 ≤ markAt (l.getD p 0))
def nMark (x : S47) : Bool := decide (x.f2 ≥ 50)
theorem one_at (l : List Int) (hl : ∀ r ∈ l, 33 ≤ r ∧ r ≤ 126) (p : Nat) (hp : p < l.length) :
    (isMark l p = true ∧ oneFrom l p = some ⟨(p : Int), ((p + 1 : Nat) : Int), 50 + markAt (l.getD p 0), 0, 0⟩) ∨ (isMark l p = false ∧ ∀ x, oneFrom l p = some x → nMark x = false) := by
  have hm := hl l[p] (List.getElem_mem hp)
  have eg : l.getD p 0 = l[p] := by rw [List.getD_eq_getElem?_getD, List.getElem?_eq_getElem hp]; rfl
  have hb : isBlank l[p] = false := by
    unfold isBlank
    exact decide_eq_false (by omega)
  unfold oneFrom oneAt isMark
  rw [pastF_no isBlank l p hp hb, if_pos hp]
  by_cases hd : isDigit (l.getD p 0) = true
  · refine .inr ⟨by rw [digit_mark _ hd]; rfl, fun x hx => ?_⟩
    rw [if_pos hd] at hx
    unfold numTok at hx
    split at hx
    · cases hx
    · cases hx
      rfl
  · rw [if_neg hd]
    unfold markTok
    by_cases hk : 0 ≤ markAt (l.getD p 0)
    · refine .inl ⟨decide_eq_true hk, ?_⟩
      rw [if_pos hk]
      rfl
    · refine .inr ⟨decide_eq_false hk, fun x hx => ?_⟩
      rw [if_neg hk] at hx
      cases hx
theorem count_marks (l : List Int) (hl : ∀ r ∈ l, 33 ≤ r ∧ r ≤ 126) : ∀ ps : List Nat, (∀ p ∈ ps, p < l.length) → ((ps.filterMap (oneFrom l)).filter nMark).length = (ps.filter (isMark l)).length
  | [], _ => rfl
  | p :: ps, h => by
    have ih := count_marks l hl ps (fun q hq => h q (List.mem_cons_of_mem _ hq))
    rw [List.filterMap_cons, List.filter_cons]
    rcases one_at l hl p (h p (List.mem_cons_self ..)) with ⟨hm, ho⟩ | ⟨hm, ho⟩
    · rw [if_pos hm, ho]
      have hn : nMark ⟨(p : Int), ((p + 1 : Nat) : Int), 50 + markAt (l.getD p 0), 0, 0⟩ = true := by
        unfold isMark at hm
        have := of_decide_eq_true hm
        exact decide_eq_true (by show 50 + markAt (l.getD p 0) ≥ 50; omega)
      show (List.filter nMark (_ :: _)).length = _
      rw [List.filter_cons, if_pos hn, List.length_cons, List.length_cons, ih]
    · rw [hm, if_neg Bool.false_ne_true]
      cases e : oneFrom l p with
      | none => exact ih
      | some x =>
        show (List.filter nMark (_ :: _)).length = _
        rw [List.filter_cons, ho x e, if_neg Bool.false_ne_true, ih]
theorem last_loop (t : List S47) (ht : t.length ≤ 1000000) : ∀ (d k i : Nat) (x : Int), i + d = t.length → d < k → x = (((t.drop i).filter nMark).length : Int) → interlocutorlaw6_LexMarks.l4 k t x (i : Int) = some true := by
  intro d
  induction d with
  | zero =>
    intro k i x hi hk hx
    obtain ⟨k, rfl⟩ : ∃ m, k = m + 1 := ⟨k - 1, by omega⟩
    rw [List.drop_eq_nil_of_le (by omega)] at hx
    have hx0 : x = 0 := hx
    simp only [interlocutorlaw6_LexMarks.l4]
    rw [if_neg (by omega), hx0]
    rfl
  | succ d ih =>
    intro k i x hi hk hx
    obtain ⟨k, rfl⟩ : ∃ m, k = m + 1 := ⟨k - 1, by omega⟩
    have hlt : i < t.length := by omega
    have hb : ((t.drop (i + 1)).filter nMark).length ≤ t.length := Nat.le_trans (List.length_filter_le _ _) (by rw [List.length_drop]; omega)
    rw [List.drop_eq_getElem_cons hlt, List.filter_cons] at hx
    simp only [interlocutorlaw6_LexMarks.l4]
    rw [if_pos (by omega), if_pos (by omega), rdT_get t i hlt, wrap_succ i (by omega)]
    by_cases c : t[i].f2 ≥ 50
    · rw [if_pos (show nMark t[i] = true from decide_eq_true c), List.length_cons] at hx
      rw [if_pos c]
      refine ih k (i + 1) _ (by omega) (by omega) ?_
      rw [wrapIn _ (by omega) (by omega)]
      omega
    · rw [if_neg (show ¬ nMark t[i] = true from fun e => c (of_decide_eq_true e))] at hx
      rw [if_neg c]
      exact ih k (i + 1) _ (by omega) (by omega) hx
theorem seek_loop (x3 : List Int) (t : List S47) (ht : t.length ≤ 1000000) (x6 : Int) (i j : Nat) (K : Nat) (hi : i ≤ 1000000) (hj : j < 11)
    (hnext : ∀ k, K ≤ k → interlocutorlaw6_LexMarks.l2 k x3 t (wrap64 (x6 + 1)) (i : Int) ((j + 1 : Nat) : Int) = some true) :
    ∀ (d k q : Nat) (b : Bool), q + d = t.length → K + d < k → (b = true ∨ (⟨(i : Int), ((i + 1 : Nat) : Int), 50 + (j : Int), 0, 0⟩ : S47) ∈ t.drop q) → interlocutorlaw6_LexMarks.l3 k x3 t x6 (i : Int) (j : Int) b (q : Int) = some true := by
  intro d
  induction d with
  | zero =>
    intro k q b hq hk hb
    obtain ⟨k, rfl⟩ : ∃ m, k = m + 1 := ⟨k - 1, by omega⟩
    have hb' : b = true := by
      rcases hb with h | h
      · exact h
      · rw [List.drop_eq_nil_of_le (by omega)] at h
        cases h
    simp only [interlocutorlaw6_LexMarks.l3]
    rw [if_neg (by omega), if_pos hb', wrap_succ j (by omega)]
    exact hnext k (by omega)
  | succ d ih =>
    intro k q b hq hk hb
    obtain ⟨k, rfl⟩ : ∃ m, k = m + 1 := ⟨k - 1, by omega⟩
    have hlt : q < t.length := by omega
    simp only [interlocutorlaw6_LexMarks.l3]
    rw [if_pos (by omega), wrap_succ q (by omega)]
    by_cases c : b = true
    · rw [if_pos c]
      exact ih k (q + 1) true (by omega) (by omega) (.inl rfl)
    · rw [if_neg c, if_pos (by omega), rdT_get t q hlt, wrap_succ i (by omega), wrapIn (50 + (j : Int)) (by omega) (by omega)]
      refine ih k (q + 1) _ (by omega) (by omega) ?_
      rcases hb with h | h
      · exact absurd h c
      · rw [List.drop_eq_getElem_cons hlt] at h
        rcases List.mem_cons.1 h with h | h
        · refine .inl ?_
          rw [← h]
          simp
        · exact .inr h
def cnt (l : List Int) (i : Nat) : Nat := ((List.range i).filter (isMark l)).length
theorem cnt_succ (l : List Int) (i : Nat) : cnt l (i + 1) = cnt l i + if isMark l i = true then 1 else 0 := by
  unfold cnt
  rw [List.range_succ, List.filter_append, List.length_append]
  congr 1
  by_cases h : isMark l i = true
  · rw [if_pos h, List.filter_cons, if_pos h]
    rfl
  · rw [if_neg h, List.filter_cons, if_neg h]
    rfl
theorem cnt_le (l : List Int) (i : Nat) : cnt l i ≤ i := by
  unfold cnt
  have := List.length_filter_le (isMark l) (List.range i)
  rw [List.length_range] at this
  exact this
theorem each_loop (l : List Int) (hl : ∀ r ∈ l, 33 ≤ r ∧ r ≤ 126) (hn : l.length ≤ 100) (t : List S47) (ht : t.length ≤ 100) (i : Nat) (hi : i < l.length) (K : Nat)
    (hmem : isMark l i = true → (⟨(i : Int), ((i + 1 : Nat) : Int), 50 + markAt (l.getD i 0), 0, 0⟩ : S47) ∈ t)
    (hnext : ∀ k, K ≤ k → interlocutorlaw6_LexMarks.l1 k l t (cnt l (i + 1) : Int) ((i + 1 : Nat) : Int) = some true) :
    ∀ (d k j : Nat) (x6 : Int), j + d = 11 → K + d * 200 < k → x6 = ((cnt l i + (if 0 ≤ markAt (l.getD i 0) ∧ markAt (l.getD i 0) < j then 1 else 0) : Nat) : Int) → interlocutorlaw6_LexMarks.l2 k l t x6 (i : Int) (j : Int) = some true := by
  have hm := hl l[i] (List.getElem_mem hi)
  have eg : l.getD i 0 = l[i] := by rw [List.getD_eq_getElem?_getD, List.getElem?_eq_getElem hi]; rfl
  have erd : rd l (i : Int) = l[i] := by
    rw [← eg]
    rfl
  have hc := cnt_succ l i
  have hcl := cnt_le l i
  have hml := mark_lt l[i]
  rw [eg] at hmem
  intro d
  induction d with
  | zero =>
    intro k j x6 hj hk hx
    obtain ⟨k, rfl⟩ : ∃ m, k = m + 1 := ⟨k - 1, by omega⟩
    have hx' : x6 = (cnt l (i + 1) : Int) := by
      rw [hx, hc, eg]
      unfold isMark
      rw [eg]
      by_cases c : 0 ≤ markAt l[i]
      · rw [if_pos ⟨c, by omega⟩, if_pos (decide_eq_true c)]
      · rw [if_neg (fun h => c h.1), if_neg (by rw [decide_eq_false c]; exact Bool.false_ne_true)]
    simp only [interlocutorlaw6_LexMarks.l2]
    rw [if_neg (by omega), wrap_succ i (by omega), hx']
    exact hnext k (by omega)
  | succ d ih =>
    intro k j x6 hj hk hx
    obtain ⟨k, rfl⟩ : ∃ m, k = m + 1 := ⟨k - 1, by omega⟩
    have hi1 : (i : Int) < (l.length : Int) := by omega
    have hk' : K + d * 200 + 200 < k + 1 := by omega
    simp only [interlocutorlaw6_LexMarks.l2]
    rw [if_pos (by omega), if_pos (by omega), if_pos hi1, if_pos (by omega), erd]
    rw [eg] at hx
    rw [eg] at ih
    by_cases c : markAt l[i] = j
    · rw [if_pos ((mark_is l[i] (by omega) (by omega) j (by omega)).2 c)]
      rw [if_neg (by omega)] at hx
      refine seek_loop l t (by omega) x6 i j (K + d * 200 + 1) (by omega) (by omega) ?_ t.length k 0 false (by omega) (by omega) (.inr ?_)
      · intro k2 hk2
        refine ih k2 (j + 1) _ (by omega) (by omega) ?_
        rw [if_pos ⟨by omega, by omega⟩, wrapIn _ (by omega) (by omega), hx]
        omega
      · rw [List.drop_zero]
        have := hmem (by unfold isMark; rw [eg]; exact decide_eq_true (by omega))
        rw [c] at this
        exact this
    · rw [if_neg (fun h => c ((mark_is l[i] (by omega) (by omega) j (by omega)).1 h)), wrap_succ j (by omega)]
      refine ih k (j + 1) x6 (by omega) (by omega) ?_
      rw [hx]
      congr 2
      by_cases c2 : 0 ≤ markAt l[i] ∧ markAt l[i] < (j : Int)
      · rw [if_pos c2, if_pos ⟨c2.1, by omega⟩]
      · rw [if_neg c2, if_neg (fun h => c2 ⟨h.1, by omega⟩)]
theorem places_loop (l : List Int) (hl : ∀ r ∈ l, 33 ≤ r ∧ r ≤ 126) (hn : l.length ≤ 100) (t : List S47) (ht : t = (List.range l.length).filterMap (oneFrom l)) :
    ∀ (d k i : Nat), i + d = l.length → 200 + d * 3000 < k → interlocutorlaw6_LexMarks.l1 k l t (cnt l i : Int) (i : Int) = some true := by
  have htl : t.length ≤ 100 := by
    rw [ht]
    have := List.length_filterMap_le (oneFrom l) (List.range l.length)
    rw [List.length_range] at this
    omega
  intro d
  induction d with
  | zero =>
    intro k i hi hk
    obtain ⟨k, rfl⟩ : ∃ m, k = m + 1 := ⟨k - 1, by omega⟩
    simp only [interlocutorlaw6_LexMarks.l1]
    rw [if_neg (by omega)]
    refine last_loop t (by omega) t.length k 0 _ (by omega) (by omega) ?_
    obtain rfl : i = l.length := by omega
    rw [List.drop_zero, ht, count_marks l hl _ (fun p hp => List.mem_range.1 hp)]
    rfl
  | succ d ih =>
    intro k i hi hk
    obtain ⟨k, rfl⟩ : ∃ m, k = m + 1 := ⟨k - 1, by omega⟩
    have hi1 : (i : Int) < (l.length : Int) := by omega
    simp only [interlocutorlaw6_LexMarks.l1]
    rw [if_pos hi1]
    obtain ⟨q, hq⟩ : ∃ q, q = 200 + d * 3000 := ⟨_, rfl⟩
    rw [← hq] at ih
    have hqk : q + 2900 < k := by omega
    clear hq hk
    obtain ⟨K, hK⟩ : ∃ K, K = q + 1 := ⟨_, rfl⟩
    have hnx : ∀ k2, K ≤ k2 → interlocutorlaw6_LexMarks.l1 k2 l t (cnt l (i + 1) : Int) ((i + 1 : Nat) : Int) = some true := fun k2 hk2 => ih k2 (i + 1) (by omega) (by omega)
    have hk3 : K + 11 * 200 < k := by omega
    refine each_loop l hl hn t htl i (by omega) K ?_ hnx 11 k 0 _ (by omega) hk3 ?_
    · intro h
      rcases one_at l hl i (by omega) with ⟨_, ho⟩ | ⟨hm, _⟩
      · rw [ht]
        exact List.mem_filterMap.2 ⟨i, List.mem_range.2 (by omega), ho⟩
      · rw [hm] at h
        cases h
    · rw [if_neg (by omega)]
      rfl
theorem fill_loop (l0 : List Int) (hn : l0.length ≤ 100) : ∀ (d k i : Nat), i + d = l0.length → 400000 + d < k →
    interlocutorlaw6_LexMarks.l0 k l0 ((l0.take i).map fun x => 33 + wrap64 x % 94) (i : Int) = some true := by
  intro d
  induction d with
  | zero =>
    intro k i hi hk
    obtain ⟨k, rfl⟩ : ∃ m, k = m + 1 := ⟨k - 1, by omega⟩
    have hlen : ((l0.take i).map fun x => 33 + wrap64 x % 94).length ≤ 100 := by rw [List.length_map, List.length_take]; omega
    have hr : ∀ r ∈ (l0.take i).map fun x => 33 + wrap64 x % 94, 33 ≤ r ∧ r ≤ 126 := by
      intro r hr
      obtain ⟨x, _, rfl⟩ := List.mem_map.1 hr
      omega
    generalize (l0.take i).map (fun x => 33 + wrap64 x % 94) = l at hlen hr
    simp only [interlocutorlaw6_LexMarks.l0]
    rw [if_neg (by omega), tokens_none _ _ _ _ _ _ (by omega), Option.bind_some]
    exact places_loop l hr hlen _ rfl l.length k 0 (by omega) (by omega)
  | succ d ih =>
    intro k i hi hk
    obtain ⟨k, rfl⟩ : ∃ m, k = m + 1 := ⟨k - 1, by omega⟩
    have hlt : i < l0.length := by omega
    have eg : rd l0 (i : Int) = l0[i] := by
      show l0.getD i 0 = l0[i]
      rw [List.getD_eq_getElem?_getD, List.getElem?_eq_getElem hlt]; rfl
    have hlen : ((l0.take i).map fun x => 33 + wrap64 x % 94).length ≤ 100 := by rw [List.length_map, List.length_take]; omega
    have ih' := ih k (i + 1) (by omega) (by omega)
    rw [List.take_succ_eq_append_getElem hlt, List.map_append] at ih'
    have hi1 : (i : Int) < (l0.length : Int) := by omega
    simp only [interlocutorlaw6_LexMarks.l0]
    rw [if_pos hi1, if_pos (by omega), eg, within_ok _ 94 (by omega) (by omega), Option.bind_some, if_pos (by omega), wrap_succ i (by omega), wrapIn (33 + wrap64 l0[i] % 94) (by omega) (by omega)]
    exact ih'
theorem LexMarks : interlocutorlaw6_LexMarks.Pure := by
  intro l0 _ _ _
  refine ⟨500000, ?_⟩
  unfold interlocutorlaw6_LexMarks.f
  rw [known_k _ (by omega), Option.bind_some, if_pos rfl]
  by_cases c : (l0.length : Int) > 100
  · rw [if_pos c]
  · rw [if_neg c]
    exact fill_loop l0 (by omega) l0.length 500000 0 (by omega) (by omega)
end Go.Proofs.Ytgbnfjhmobeloaa.Pure
