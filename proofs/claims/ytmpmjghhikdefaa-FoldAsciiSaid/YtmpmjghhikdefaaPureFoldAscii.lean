/- FoldAscii holds for every row of bytes: of plain bytes each is a rune; capitals are small; nothing else is another, but the tab. No condition. -/
import Derived.Test.YtmpmjghhikdefaaPlain3g
import Derived.Test.YtmpmjghhikdefaaGx20
namespace Go.Proofs.Ytmpmjghhikdefaa.Pure
open Go.RowKit Go.Proofs.Ytmpmjghhikdefaa.G Go.Proofs.YtmpmjghhikdefaaW.PrintWords Go.Proofs.YtmpmjghhikdefaaW.PrintLast Go.Proofs.YtmpmjghhikdefaaW.PrintMore Go.Proofs.Ytmpmjghhikdefaa.Plain
set_option linter.unusedVariables false
set_option linter.unusedSimpArgs false
theorem ascii_enc : ∀ (l : List Int), (∀ x ∈ l, 0 ≤ x ∧ x < 128) → l.flatMap Lib.encodeRuneZ = l
  | [], _ => rfl
  | x :: l, h => by
    have h1 := h x List.mem_cons_self
    rw [List.flatMap_cons, ascii_enc l (fun y hy => h y (List.mem_cons_of_mem _ hy)), Lib.encodeRuneZ_one h1.1 (by omega)]
    rfl
theorem plc_at : ∀ (l : List Int) (p : Int) (i : Nat) (e : Int), (∀ x ∈ l, 0 ≤ x ∧ x < 128) → e = p + (l.length : Int) → i ≤ l.length → ((plc l p).map (fun q => q.1) ++ [e]).getD i 0 = p + (i : Int)
  | [], p, i, e, _, he, hi => by
    have : i = 0 := by simpa using hi
    subst this
    simp [plc, he]
  | x :: l, p, 0, e, _, _, _ => by simp [plc]
  | x :: l, p, i + 1, e, h, he, hi => by
    have h1 := h x List.mem_cons_self
    have := plc_at l (p + 1) i e (fun y hy => h y (List.mem_cons_of_mem _ hy)) (by simp only [List.length_cons] at he; omega) (by simpa using hi)
    simp only [plc, Lib.encodeRuneZ_one h1.1 (show x ≤ 127 by omega), List.length_singleton, List.map_cons, List.cons_append, List.getD_cons_succ]
    rw [show p + ((1 : Nat) : Int) = p + 1 from rfl, this]
    omega
theorem rune_ascii (x : Int) (h0 : 0 ≤ x) (h1 : x < 128) : runeP x = if x = 9 then 32 else if 65 ≤ x ∧ x ≤ 90 then x + 32 else x := by
  unfold runeP
  rw [if_neg (show ¬ (65281 ≤ x ∧ x ≤ 65374) by omega)]
  dsimp only
  by_cases c : x = 9
  · rw [if_pos c, if_pos (Or.inl c)]
  rw [if_neg c, if_neg (by omega), if_neg (by omega), if_neg (by omega), if_neg (by omega), if_neg (by omega), if_neg (by omega)]
  by_cases c2 : 65 ≤ x ∧ x ≤ 90
  · rw [if_pos c2, if_pos (Or.inl c2)]
  rw [if_neg c2, if_neg (by omega), if_neg (by omega)]
theorem ascii_l1 (c r o : List Int) (hc : ∀ x ∈ c, 0 ≤ x ∧ x < 128) (hr : r = c.map runeP) (ho : ∀ i, i < c.length → o.getD i 0 = (i : Int)) (hol : o.length = c.length + 1) (hl : c.length ≤ 200) :
    ∀ (d k i : Nat), i + d = c.length → 3 * d + 1 < k → interlocutorlaw3_FoldAscii.l1 k c r o (i : Int) = some true := by
  intro d
  induction d with
  | zero =>
    intro k i hi hk
    obtain ⟨k, rfl⟩ : ∃ m, k = m + 1 := ⟨k - 1, by omega⟩
    simp only [interlocutorlaw3_FoldAscii.l1]
    rw [if_neg (by omega)]
  | succ d ih =>
    intro k i hi hk
    have h1 : i < c.length := by omega
    have e1 : rd c (i : Int) = c[i] := by unfold rd; simp [List.getElem?_eq_getElem h1]
    have b := hc _ (List.getElem_mem h1)
    have e2 : rd r (i : Int) = runeP c[i] := by
      unfold rd
      rw [hr, Int.toNat_natCast, List.getD_eq_getElem?_getD, List.getElem?_map, List.getElem?_eq_getElem h1]
      rfl
    have e3 : rd o (i : Int) = (i : Int) := ho i h1
    have hrl : (r.length : Int) = (c.length : Int) := by rw [hr, List.length_map]
    have hra := rune_ascii c[i] b.1 b.2
    have a0 : i < 1000000000000000000 := by omega
    have a9 : i + 1 + d = c.length := by omega
    have a5 : (i : Int) < (c.length : Int) := by omega
    have a7 : (0 : Int) ≤ (i : Int) := by omega
    have a8 : (i : Int) < (o.length : Int) := by omega
    generalize c[i] = x at *
    have j4 : ∀ (k : Nat) (w : Int), 3 * d + 1 < k → runeP x = (if w = 9 then 32 else w) → interlocutorlaw3_FoldAscii.j4 (k + 1) c r o (i : Int) w = some true := by
      intro k w hk hxw
      have := ih k (i + 1) a9 hk
      simp only [interlocutorlaw3_FoldAscii.j4]
      rw [e2, e3, wrap_succ i a0, this, hrl]
      by_cases c9 : w = 9
      · rw [if_pos c9] at hxw
        rw [if_pos c9, if_pos a7, if_pos a5, if_pos hxw, if_pos a8, if_pos rfl]
      · rw [if_neg c9] at hxw
        rw [if_neg c9, if_pos a7, if_pos a5, if_pos hxw, if_pos a8, if_pos rfl]
    obtain ⟨m, rfl⟩ : ∃ m, k = m + 3 := ⟨k - 3, by omega⟩
    have hk2 : 3 * d + 1 < m := by omega
    have hx0 : -9223372036854775808 ≤ x ∧ x ≤ 9223372036854775807 := by omega
    have hx2 : -9223372036854775808 ≤ x + 32 ∧ x + 32 ≤ 9223372036854775807 := by omega
    have j3t : interlocutorlaw3_FoldAscii.j3 (m + 2) c r o (i : Int) x true = interlocutorlaw3_FoldAscii.j4 (m + 1) c r o (i : Int) (x + 32) := by
      generalize hm : m + 1 = n
      rw [show m + 2 = n + 1 by omega]
      simp only [interlocutorlaw3_FoldAscii.j3]
      rw [if_pos trivial, wrapIn _ hx2.1 hx2.2]
    have j3f : interlocutorlaw3_FoldAscii.j3 (m + 2) c r o (i : Int) x false = interlocutorlaw3_FoldAscii.j4 (m + 1) c r o (i : Int) x := by
      generalize hm : m + 1 = n
      rw [show m + 2 = n + 1 by omega]
      simp only [interlocutorlaw3_FoldAscii.j3]
      rw [if_neg (by simp)]
    generalize hn : m + 2 = n at j3t j3f
    rw [show m + 3 = n + 1 by omega]
    simp only [interlocutorlaw3_FoldAscii.l1]
    rw [if_pos a5, if_pos a7, e1, wrapIn _ hx0.1 hx0.2]
    by_cases c1 : x ≥ 65
    · rw [if_pos c1]
      by_cases c2 : x ≤ 90
      · rw [decide_eq_true c2, j3t]
        exact j4 m _ hk2 (by rw [hra, if_neg (by omega), if_pos ⟨c1, c2⟩, if_neg (by omega)])
      · rw [decide_eq_false c2, j3f]
        exact j4 m _ hk2 (by rw [hra, if_neg (by omega), if_neg (by omega), if_neg (by omega)])
    · rw [if_neg c1, j3f]
      refine j4 m _ hk2 ?_
      rw [hra]
      by_cases c3 : x = 9
      · rw [if_pos c3, if_pos c3]
      · rw [if_neg c3, if_neg c3, if_neg (by omega)]
theorem ascii_l0 (l : List Int) (hb : ∀ x ∈ l, 0 ≤ x ∧ x ≤ 255) (hl : l.length ≤ 200) : ∀ (d k i : Nat), i + d = l.length → 1000 + d < k → interlocutorlaw3_FoldAscii.l0 k ((l.take i).map (fun x => x % 128) ++ l.drop i) (i : Int) = some true := by
  intro d
  induction d with
  | zero =>
    intro k i hi hk
    have hd : l.drop i = [] := List.drop_eq_nil_of_le (by omega)
    rw [hd, List.append_nil, List.take_of_length_le (by omega)]
    have hc : ∀ x ∈ l.map (fun x => x % 128), 0 ≤ x ∧ x < 128 := by
      intro x hx
      obtain ⟨y, hy, rfl⟩ := List.mem_map.1 hx
      have := hb y hy
      show 0 ≤ y % 128 ∧ y % 128 < 128
      omega
    have hcl : (l.map (fun x => x % 128)).length = l.length := List.length_map _
    generalize l.map (fun x => x % 128) = c at hc hcl ⊢
    have he := ascii_enc c hc
    have hz : (strOfNums c).size = c.length := nums_size c
    have hsig : ∀ r ∈ c, Sign r := fun r hr => by have := hc r hr; unfold Sign; omega
    have hf := fold_runes (strOfNums c) (by omega)
    have hr : runesOf (strOfNums c) = c.map runeP := by conv => lhs; rw [← he]
                                                        exact runes_enc c hsig
    have hp : sgnOf (strOfNums c) = plc c 0 := by conv => lhs; rw [← he]
                                                  exact sgnOf_enc c hsig
    rw [hr, hp, hz] at hf
    have ho : ∀ i, i < c.length → ((plc c 0).map (fun p => p.1) ++ [(c.length : Int)]).getD i 0 = (i : Int) := fun i hi => by
      have := plc_at c 0 i (c.length : Int) hc (by omega) (by omega)
      rw [this]
      omega
    have hol : ((plc c 0).map (fun p => p.1) ++ [(c.length : Int)]).length = c.length + 1 := by
      have := congrArg List.length (plc_snd c 0)
      rw [List.length_map] at this
      rw [List.length_append, List.length_map, this]
      rfl
    generalize (plc c 0).map (fun p => p.1) ++ [(c.length : Int)] = o at hf ho hol
    have hrl : ((c.map runeP).length : Int) = (c.length : Int) := by rw [List.length_map]
    obtain ⟨k, rfl⟩ : ∃ m, k = m + 1 := ⟨k - 1, by omega⟩
    have hl1 := fun k' (hk' : 3 * c.length + 1 < k') => ascii_l1 c (c.map runeP) o hc rfl ho hol (by omega) c.length k' 0 (by omega) hk'
    have hj : interlocutorlaw3_FoldAscii.j1 k c (c.map runeP) o false = some true := by
      obtain ⟨k, rfl⟩ : ∃ m, k = m + 1 := ⟨k - 1, by omega⟩
      simp only [interlocutorlaw3_FoldAscii.j1]
      rw [if_neg (by simp)]
      exact hl1 k (by omega)
    generalize c.map runeP = r at *
    simp only [interlocutorlaw3_FoldAscii.l0]
    rw [if_neg (by omega), hf, Option.bind_some]
    dsimp only
    rw [if_pos hrl, wrapIn _ (by omega) (by omega), show (o.length : Int) = (c.length : Int) + 1 by omega, bne_self_eq_false]
    exact hj
  | succ d ih =>
    intro k i hi hk
    obtain ⟨k, rfl⟩ : ∃ m, k = m + 1 := ⟨k - 1, by omega⟩
    have h1 : i < l.length := by omega
    have b := hb _ (List.getElem_mem h1)
    have hlen : ((l.take i).map (fun x => x % 128)).length = i := by rw [List.length_map, List.length_take]; omega
    have e1 : rd ((l.take i).map (fun x => x % 128) ++ l.drop i) (i : Int) = l[i] := by
      unfold rd
      rw [Int.toNat_natCast, List.getD_eq_getElem?_getD, List.getElem?_append_right (by omega), hlen, Nat.sub_self, List.drop_eq_getElem_cons h1]
      rfl
    have e2 : ((l.take i).map (fun x => x % 128) ++ l.drop i).set i (l[i] % 128) = (l.take (i + 1)).map (fun x => x % 128) ++ l.drop (i + 1) := by
      rw [List.set_append_right _ _ (by omega), hlen, Nat.sub_self, List.drop_eq_getElem_cons h1, List.set_cons_zero, List.take_succ_eq_append_getElem h1, List.map_append, List.append_assoc]
      rfl
    have e3 : ((l.take i).map (fun x => x % 128) ++ l.drop i).length = l.length := by rw [List.length_append, hlen, List.length_drop]; omega
    have ha : Go.bits .and .u8 l[i] 127 = l[i] % 128 := bits_mask .u8 8 (by decide) wraps_u8 7 (by decide) l[i] (by omega) (by omega)
    have a0 : i < 1000000000000000000 := by omega
    have a1 : (i : Int) < ((((l.take i).map (fun x => x % 128) ++ l.drop i).length : Nat) : Int) := by rw [e3]; omega
    have a2 : (0 : Int) ≤ (i : Int) := by omega
    have ih' := ih k (i + 1) (by omega) (by omega)
    simp only [interlocutorlaw3_FoldAscii.l0]
    rw [if_pos a1, if_pos a2, e1, Int.toNat_natCast, ha, e2, wrap_succ i a0]
    exact ih'
theorem FoldAscii : interlocutorlaw3_FoldAscii.Pure := by
  intro l0 _ _ hwf
  obtain ⟨k, hk⟩ : ∃ k : Nat, k = 2000 := ⟨_, rfl⟩
  refine ⟨k, ?_⟩
  unfold interlocutorlaw3_FoldAscii.f
  rw [known_k _ (by omega), Option.bind_some, if_pos rfl]
  by_cases c : (l0.length : Int) > 200
  · rw [if_pos c]
  rw [if_neg c, Option.bind_some, if_pos (by simp only [List.length_nil]; omega), List.nil_append]
  have hb : ∀ x ∈ l0, 0 ≤ x ∧ x ≤ 255 := by
    intro x hx
    have := hwf x hx
    simp [Lit.wf, IntKind.min, IntKind.max, IntKind.signed, IntKind.bits] at this
    omega
  have := ascii_l0 l0 hb (by omega) l0.length k 0 (by omega) (by omega)
  simpa using this
end Go.Proofs.Ytmpmjghhikdefaa.Pure
