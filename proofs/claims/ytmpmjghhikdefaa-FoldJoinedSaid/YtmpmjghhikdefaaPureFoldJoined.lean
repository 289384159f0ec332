/- FoldJoined holds for every two rows: whole signs one behind the other have both's runes. No condition. -/
import Derived.Test.YtmpmjghhikdefaaPlain3g
import Derived.Test.YtmpmjghhikdefaaGx18
namespace Go.Proofs.Ytmpmjghhikdefaa.Pure
open Go.RowKit Go.Proofs.Ytmpmjghhikdefaa.G Go.Proofs.YtmpmjghhikdefaaW.PrintWords Go.Proofs.YtmpmjghhikdefaaW.PrintLast Go.Proofs.YtmpmjghhikdefaaW.PrintMore Go.Proofs.Ytmpmjghhikdefaa.Plain
set_option linter.unusedVariables false
set_option linter.unusedSimpArgs false
/-- A text of whole signs, at most so many. -/
def Whole (s : ByteArray) (n : Nat) : Prop := ∃ rs : List Int, s = strOfNums (rs.flatMap Lib.encodeRuneZ) ∧ (∀ r ∈ rs, Sign r) ∧ rs.length ≤ n
theorem whole_at (x5 : List ByteArray) (h : x5 = [⟨#[97]⟩, ⟨#[195, 132]⟩, ⟨#[226, 130, 172]⟩, ⟨#[240, 159, 152, 128]⟩, ⟨#[32]⟩, ⟨#[239, 188, 161]⟩, ⟨#[53]⟩]) (t : Int) (h0 : 0 ≤ t) (h1 : t < 7) : ∃ r, Sign r ∧ rdOf ByteArray.empty x5 t = strOfNums (Lib.encodeRuneZ r) := by
  have : t = 0 ∨ t = 1 ∨ t = 2 ∨ t = 3 ∨ t = 4 ∨ t = 5 ∨ t = 6 := by omega
  subst h
  rcases this with h | h | h | h | h | h | h <;> subst h
  · exact ⟨97, by unfold Sign; omega, by decide +kernel⟩
  · exact ⟨196, by unfold Sign; omega, by decide +kernel⟩
  · exact ⟨8364, by unfold Sign; omega, by decide +kernel⟩
  · exact ⟨128512, by unfold Sign; omega, by decide +kernel⟩
  · exact ⟨32, by unfold Sign; omega, by decide +kernel⟩
  · exact ⟨65313, by unfold Sign; omega, by decide +kernel⟩
  · exact ⟨53, by unfold Sign; omega, by decide +kernel⟩
theorem whole_size {s : ByteArray} {n : Nat} (h : Whole s n) : s.size ≤ 4 * n := by
  obtain ⟨rs, rfl, _, hl⟩ := h
  have := (encz_length rs).2
  rw [nums_size]
  omega
theorem whole_more {s u : ByteArray} {n : Nat} {r : Int} (h : Whole s n) (hr : Sign r) (hu : u = strOfNums (Lib.encodeRuneZ r)) : Whole (s ++ u) (n + 1) := by
  obtain ⟨rs, rfl, hs, hl⟩ := h
  refine ⟨rs ++ [r], ?_, ?_, by simp only [List.length_append, List.length_singleton]; omega⟩
  · rw [hu, Plain.nums_append, List.flatMap_append]
    simp
  · intro x hx
    rcases List.mem_append.1 hx with hx | hx
    · exact hs x hx
    · rw [List.mem_singleton.1 hx]; exact hr
theorem plc_fst_head (l : List Int) (p e : Int) (t : List Int) (he : l = [] → p = e) : ((plc l p).map (fun q => q.1) ++ e :: t).getD 0 0 = p := by
  cases l with
  | nil => simp [plc, he rfl]
  | cons r rs => simp [plc]
theorem joined_end (s t : ByteArray) (hs : Whole s 20) (ht : Whole t 20) (k : Nat) (hk : 101 < k) : interlocutorlaw3_FoldJoined.j3 k s t = some true := by
  obtain ⟨k, rfl⟩ : ∃ m, k = m + 1 := ⟨k - 1, by omega⟩
  have zs := whole_size hs
  have zt := whole_size ht
  have zst := app_size s t
  obtain ⟨rs, es, gs, ls⟩ := hs
  obtain ⟨ms, et, gt, lt⟩ := ht
  have est : s ++ t = strOfNums ((rs ++ ms).flatMap Lib.encodeRuneZ) := by rw [es, et, Plain.nums_append, List.flatMap_append]
  have gst : ∀ r ∈ rs ++ ms, Sign r := fun r hr => (List.mem_append.1 hr).elim (gs r) (gt r)
  have fs := fold_runes s (by omega)
  have ft := fold_runes t (by omega)
  have fst' := fold_runes (s ++ t) (by omega)
  have rs' : runesOf s = rs.map runeP := by rw [es]; exact runes_enc rs gs
  have rt' : runesOf t = ms.map runeP := by rw [et]; exact runes_enc ms gt
  have rst' : runesOf (s ++ t) = (rs ++ ms).map runeP := by rw [est]; exact runes_enc _ gst
  have ps : sgnOf (s ++ t) = plc (rs ++ ms) 0 := by rw [est]; exact sgnOf_enc _ gst
  have zs2 : (s.size : Int) = ((rs.flatMap Lib.encodeRuneZ).length : Int) := by rw [es, nums_size]
  have hl1 : (sgnOf (s ++ t)).length = rs.length + ms.length := by
    have := congrArg List.length (plc_snd (rs ++ ms) 0)
    rw [List.length_map, ← ps, List.length_append] at this
    exact this
  have hat : rd ((sgnOf (s ++ t)).map (fun p => p.1) ++ [((s ++ t).size : Int)]) (rs.length : Int) = (s.size : Int) := by
    rw [ps, plc_append, List.map_append, List.append_assoc]
    unfold rd
    have hl2 : (plc rs 0).length = rs.length := by
      have := congrArg List.length (plc_snd rs 0)
      rwa [List.length_map] at this
    rw [Int.toNat_natCast, List.getD_eq_getElem?_getD, List.getElem?_append_right (by rw [List.length_map]; omega), List.length_map, hl2, Nat.sub_self, ← List.getD_eq_getElem?_getD]
    rw [Int.zero_add, ← zs2]
    refine plc_fst_head ms _ _ [] (fun hm => ?_)
    rw [zst, et, hm, nums_size]
    simp
  have hlo : ((sgnOf (s ++ t)).map (fun p => p.1) ++ [((s ++ t).size : Int)]).length = rs.length + ms.length + 1 := by
    rw [List.length_append, List.length_map, hl1]; rfl
  rw [rs'] at fs
  rw [rt'] at ft
  rw [rst'] at fst'
  have la : (rs.map runeP).length = rs.length := List.length_map _
  have lb : (ms.map runeP).length = ms.length := List.length_map _
  have lc : ((rs ++ ms).map runeP).length = rs.length + ms.length := by rw [List.length_map, List.length_append]
  have ec : (rs ++ ms).map runeP = rs.map runeP ++ ms.map runeP := List.map_append
  generalize (sgnOf (s ++ t)).map (fun p => p.1) ++ [((s ++ t).size : Int)] = o at *
  generalize (sgnOf s).map (fun p => p.1) ++ [(s.size : Int)] = os at *
  generalize (sgnOf t).map (fun p => p.1) ++ [(t.size : Int)] = ot at *
  generalize (rs ++ ms).map runeP = c at *
  generalize rs.map runeP = a at *
  generalize ms.map runeP = b at *
  clear est gst rs' rt' rst' ps zs2 hl1 es et gs gt
  simp only [interlocutorlaw3_FoldJoined.j3]
  rw [fs, Option.bind_some, ft, Option.bind_some, if_pos (by omega), fst', Option.bind_some, Option.bind_some]
  dsimp only
  rw [if_pos (by simp only [List.length_nil]; omega), Option.bind_some, List.nil_append, if_pos (by omega), ints_ok _ _ (by omega) k (by omega), Option.bind_some, ec, decide_eq_true rfl, if_pos rfl, ← ec]
  rw [if_pos (by rw [wrapIn _ (by omega) (by omega)]; omega), if_pos (by omega), if_pos (by omega), la, hat]
  simp
theorem joined_l1 (l1 : List Int) (x5 : List ByteArray) (h5 : x5 = [⟨#[97]⟩, ⟨#[195, 132]⟩, ⟨#[226, 130, 172]⟩, ⟨#[240, 159, 152, 128]⟩, ⟨#[32]⟩, ⟨#[239, 188, 161]⟩, ⟨#[53]⟩]) (s : ByteArray) (hs : Whole s 20) :
    ∀ (d k i : Nat) (t : ByteArray), 20 - i ≤ d → i ≤ 20 → d + 200 < k → Whole t i → interlocutorlaw3_FoldJoined.l1 k l1 x5 s t (i : Int) = some true := by
  have h7 : (x5.length : Int) = 7 := by subst h5; rfl
  intro d
  induction d with
  | zero =>
    intro k i t hd hi hk ht
    obtain ⟨k, rfl⟩ : ∃ m, k = m + 1 := ⟨k - 1, by omega⟩
    have ht' : Whole t 20 := by obtain ⟨rs, a, b, c⟩ := ht; exact ⟨rs, a, b, by omega⟩
    have e := joined_end s t hs ht' k (by omega)
    simp only [interlocutorlaw3_FoldJoined.l1]
    split
    · rw [if_neg (by omega)]
      exact e
    · exact e
  | succ d ih =>
    intro k i t hd hi hk ht
    by_cases hn : i < l1.length ∧ i < 20
    · obtain ⟨k, rfl⟩ : ∃ m, k = m + 1 := ⟨k - 1, by omega⟩
      have a5 : (i : Int) < (l1.length : Int) := by omega
      have a6 : (i : Int) < 20 := by omega
      have a7 : (0 : Int) ≤ (i : Int) := by omega
      have hw : wrap64 ((i : Int) + 1) = ((i + 1 : Nat) : Int) := by rw [wrapIn _ (by omega) (by omega)]; omega
      have zt := whole_size ht
      have ih' := ih k (i + 1)
      have b1 : 20 - (i + 1) ≤ d := by omega
      have b2 : i + 1 ≤ 20 := by omega
      have b3 : d + 200 < k := by omega
      simp only [interlocutorlaw3_FoldJoined.l1]
      rw [if_pos a5, if_pos a6, if_pos a7, within_ok _ 7 (by omega) (by omega), Option.bind_some, h7, hw]
      generalize rd l1 (i : Int) = q
      have c0 := Int.emod_nonneg q (show (7 : Int) ≠ 0 by omega)
      have c1 := Int.emod_lt_of_pos q (show (0 : Int) < 7 by omega)
      rw [if_pos c0, if_pos c1]
      obtain ⟨r, hr, hu⟩ := whole_at x5 h5 (q % 7) c0 c1
      generalize rdOf ByteArray.empty x5 (q % 7) = u at hu ⊢
      have zu : u.size ≤ 4 := by rw [hu, nums_size]; exact (Lib.encodeRuneZ_length r).2
      rw [if_pos (by omega)]
      exact ih' _ b1 b2 b3 (whole_more ht hr hu)
    · obtain ⟨k, rfl⟩ : ∃ m, k = m + 1 := ⟨k - 1, by omega⟩
      have ht' : Whole t 20 := by obtain ⟨rs, a, b, c⟩ := ht; exact ⟨rs, a, b, by omega⟩
      have e := joined_end s t hs ht' k (by omega)
      simp only [interlocutorlaw3_FoldJoined.l1]
      split
      · rw [if_neg (by omega)]
        exact e
      · exact e
theorem joined_l0 (l0 l1 : List Int) (x5 : List ByteArray) (h5 : x5 = [⟨#[97]⟩, ⟨#[195, 132]⟩, ⟨#[226, 130, 172]⟩, ⟨#[240, 159, 152, 128]⟩, ⟨#[32]⟩, ⟨#[239, 188, 161]⟩, ⟨#[53]⟩]) (t : ByteArray) (ht : Whole t 0) :
    ∀ (d k i : Nat) (s : ByteArray), 20 - i ≤ d → i ≤ 20 → d + 300 < k → Whole s i → interlocutorlaw3_FoldJoined.l0 k l0 l1 x5 s t (i : Int) = some true := by
  have h7 : (x5.length : Int) = 7 := by subst h5; rfl
  have stop : ∀ (k i : Nat) (s : ByteArray), 240 < k → i ≤ 20 → Whole s i → interlocutorlaw3_FoldJoined.j1 k l1 x5 s t = some true := by
    intro k i s hk hi hs
    obtain ⟨k, rfl⟩ : ∃ m, k = m + 1 := ⟨k - 1, by omega⟩
    have hs' : Whole s 20 := by obtain ⟨rs, a, b, c⟩ := hs; exact ⟨rs, a, b, by omega⟩
    simp only [interlocutorlaw3_FoldJoined.j1]
    exact joined_l1 l1 x5 h5 s hs' 20 k 0 t (by omega) (by omega) (by omega) ht
  intro d
  induction d with
  | zero =>
    intro k i s hd hi hk hs
    obtain ⟨k, rfl⟩ : ∃ m, k = m + 1 := ⟨k - 1, by omega⟩
    have e := stop k i s (by omega) hi hs
    simp only [interlocutorlaw3_FoldJoined.l0]
    split
    · rw [if_neg (by omega)]
      exact e
    · exact e
  | succ d ih =>
    intro k i s hd hi hk hs
    by_cases hn : i < l0.length ∧ i < 20
    · obtain ⟨k, rfl⟩ : ∃ m, k = m + 1 := ⟨k - 1, by omega⟩
      have a5 : (i : Int) < (l0.length : Int) := by omega
      have a6 : (i : Int) < 20 := by omega
      have a7 : (0 : Int) ≤ (i : Int) := by omega
      have hw : wrap64 ((i : Int) + 1) = ((i + 1 : Nat) : Int) := by rw [wrapIn _ (by omega) (by omega)]; omega
      have zt := whole_size hs
      have ih' := ih k (i + 1)
      have b1 : 20 - (i + 1) ≤ d := by omega
      have b2 : i + 1 ≤ 20 := by omega
      have b3 : d + 300 < k := by omega
      simp only [interlocutorlaw3_FoldJoined.l0]
      rw [if_pos a5, if_pos a6, if_pos a7, within_ok _ 7 (by omega) (by omega), Option.bind_some, h7, hw]
      generalize rd l0 (i : Int) = q
      have c0 := Int.emod_nonneg q (show (7 : Int) ≠ 0 by omega)
      have c1 := Int.emod_lt_of_pos q (show (0 : Int) < 7 by omega)
      rw [if_pos c0, if_pos c1]
      obtain ⟨r, hr, hu⟩ := whole_at x5 h5 (q % 7) c0 c1
      generalize rdOf ByteArray.empty x5 (q % 7) = u at hu ⊢
      have zu : u.size ≤ 4 := by rw [hu, nums_size]; exact (Lib.encodeRuneZ_length r).2
      rw [if_pos (by omega)]
      exact ih' _ b1 b2 b3 (whole_more hs hr hu)
    · obtain ⟨k, rfl⟩ : ∃ m, k = m + 1 := ⟨k - 1, by omega⟩
      have e := stop k i s (by omega) hi hs
      simp only [interlocutorlaw3_FoldJoined.l0]
      split
      · rw [if_neg (by omega)]
        exact e
      · exact e
theorem FoldJoined : interlocutorlaw3_FoldJoined.Pure := by
  intro l0 l1 _ _ _ _ _ _
  obtain ⟨k, hk⟩ : ∃ k : Nat, k = 1000 := ⟨_, rfl⟩
  refine ⟨k, ?_⟩
  unfold interlocutorlaw3_FoldJoined.f
  rw [known_k _ (by omega), Option.bind_some, if_pos rfl]
  have he : Whole ⟨#[]⟩ 0 := ⟨[], by decide +kernel, by simp, by simp⟩
  exact joined_l0 l0 l1 _ rfl _ he 20 k 0 _ (by omega) (by omega) (by omega) he
end Go.Proofs.Ytmpmjghhikdefaa.Pure
