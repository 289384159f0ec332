/- LexNumbers holds for every input: a number's sign ends where its digits end, and is worth what they say. No condition. -/
import Derived.Test.YtgbnfjhmobeloaaPlain6t
import Derived.Test.YtgbnfjhmobeloaaGx19
namespace Go.Proofs.Ytgbnfjhmobeloaa.Pure
open Go.RowKit Go.Proofs.Ytgbnfjhmobeloaa.G Go.Proofs.YtgbnfjhmobeloaaW.PrintWords Go.Proofs.YtgbnfjhmobeloaaW.PrintLast Go.Proofs.YtgbnfjhmobeloaaW.PrintMore Go.Proofs.Ytgbnfjhmobeloaa.Plain
set_option linter.unusedVariables false
set_option linter.unusedSimpArgs false
theorem nums_size (l : List Int) : (strOfNums l).size = l.length := by
  unfold strOfNums
  show (List.toArray _).size = _
  simp
theorem nums_append (a b : List Int) : strOfNums a ++ strOfNums b = strOfNums (a ++ b) := by
  unfold strOfNums
  apply ByteArray.ext
  rw [ByteArray.data_append]
  simp
theorem bytes_of_nums (l : List Int) (h : ∀ x ∈ l, 0 ≤ x ∧ x ≤ 255) : bytesOf (strOfNums l) = l := by
  unfold bytesOf strOfNums
  simp only [List.toList_toArray, List.map_map]
  rw [List.map_congr_left (g := id), List.map_id]
  intro x hx
  have := h x hx
  simp only [Function.comp, id, UInt8.toNat_ofNat']
  omega
theorem nums_nil (l : List Int) : (strOfNums l).toList = ([] : List UInt8) ↔ l = [] := by
  rw [Lib.toList_data]
  unfold strOfNums
  simp
/-- Plain signs of a byte each are their bytes. -/
theorem sgn_plain : ∀ (L T : List Int) (f : Nat) (p q : Int), (∀ r ∈ L, 48 ≤ r ∧ r ≤ 57) → (sgn (L.length + f) (L ++ T) p).map (fun x => runeP x.2) = L ++ (sgn f T q).map (fun x => runeP x.2)
  | [], T, f, p, q, _ => by
    rw [List.length_nil, Nat.zero_add, List.nil_append, List.nil_append]
    induction f generalizing T p q with
    | zero => rfl
    | succ f ih =>
      simp only [sgn]
      split
      · rw [List.map_cons, List.map_cons, ih _ _ (q + (decL T).2)]
      · rfl
  | c :: L, T, f, p, q, h => by
    have hc := h c (List.mem_cons_self ..)
    have ed : decL (c :: L ++ T) = (c, 1) := by
      unfold decL
      have e0 : (c :: L ++ T).getD 0 0 = c := rfl
      rw [e0]
      simp only []
      rw [if_pos (by omega)]
    rw [List.length_cons, show L.length + 1 + f = (L.length + f) + 1 by omega]
    simp only [sgn]
    rw [if_pos (by simp), ed, List.map_cons]
    show runeP c :: _ = _
    have er : runeP c = c := by
      unfold runeP
      simp only []
      rw [if_neg (show ¬ (65281 ≤ c ∧ c ≤ 65374) by omega), if_neg (by omega), if_neg (by omega), if_neg (by omega), if_neg (by omega), if_neg (by omega), if_neg (by omega), if_neg (by omega), if_neg (by omega)]
    rw [er, show (c :: L ++ T).drop 1 = L ++ T from rfl, sgn_plain L T f _ q (fun r hr => h r (List.mem_cons_of_mem _ hr)), List.cons_append]
theorem runes_plain (L T : List Int) (h : ∀ r ∈ L, 48 ≤ r ∧ r ≤ 57) (hT : ∀ r ∈ T, 0 ≤ r ∧ r ≤ 255) : runesOf (strOfNums (L ++ T)) = L ++ (sgn T.length T 0).map (fun x => runeP x.2) := by
  unfold runesOf sgnOf
  rw [nums_size, List.length_append, bytes_of_nums _ (by
    intro x hx
    rcases List.mem_append.1 hx with hx | hx
    · have := h x hx
      omega
    · exact hT x hx)]
  exact sgn_plain L T T.length 0 0 h
theorem at_first (l : List Int) (n : Nat) (hn : 0 < n) : ((List.range n).filterMap (oneFrom l)).filter (fun x => decide (x.f0 = 0)) = (oneFrom l 0).toList := by
  obtain ⟨n, rfl⟩ : ∃ m, n = m + 1 := ⟨n - 1, by omega⟩
  have e1 : (((List.range n).map Nat.succ).filterMap (oneFrom l)).filter (fun x => decide (x.f0 = 0)) = [] := by
    rw [List.filter_eq_nil_iff]
    intro x hx h
    obtain ⟨p, hp, hx⟩ := List.mem_filterMap.1 hx
    obtain ⟨q, _, rfl⟩ := List.mem_map.1 hp
    have := oneFrom_f0 hx
    have h0 := of_decide_eq_true h
    omega
  rw [List.range_succ_eq_map, List.filterMap_cons]
  cases e : oneFrom l 0 with
  | none => exact e1
  | some x =>
    have h0 := oneFrom_f0 e
    show List.filter _ (x :: _) = _
    rw [List.filter_cons, e1, if_pos (decide_eq_true (by omega))]
    rfl
theorem while_digits : ∀ (L R : List Int), (∀ r ∈ L, 48 ≤ r ∧ r ≤ 57) → (L ++ R).takeWhile isDigit = L ++ R.takeWhile isDigit
  | [], _, _ => rfl
  | c :: L, R, h => by
    have hc := h c (List.mem_cons_self ..)
    rw [List.cons_append, List.takeWhile_cons, if_pos (by unfold isDigit; rw [decide_eq_true hc.1, decide_eq_true hc.2]; rfl), while_digits L R (fun r hr => h r (List.mem_cons_of_mem _ hr)), List.cons_append]
theorem first_num (L R : List Int) (h : ∀ r ∈ L, 48 ≤ r ∧ r ≤ 57) (h0 : L ≠ []) (e : Nat) (he : e = L.length + (R.takeWhile isDigit).length) (h1 : e ≤ 18) :
    oneFrom (L ++ R) 0 = some ⟨0, (e : Int), 0, numVal ((L ++ R).take e), (e : Int)⟩ := by
  obtain ⟨c, M, rfl⟩ : ∃ c M, L = c :: M := by cases L with | nil => exact absurd rfl h0 | cons c M => exact ⟨c, M, rfl⟩
  have hc := h c (List.mem_cons_self ..)
  have hp : pastF isDigit (c :: M ++ R) 0 = e := by
    unfold pastF
    rw [List.drop_zero, while_digits _ R h, List.length_append, he]
    omega
  have hb : pastF isBlank (c :: M ++ R) 0 = 0 := pastF_no isBlank _ 0 (by simp) (by show isBlank c = false; unfold isBlank; exact decide_eq_false (by omega))
  unfold oneFrom oneAt
  rw [hb, if_pos (by simp), if_pos (by show isDigit c = true; unfold isDigit; rw [decide_eq_true hc.1, decide_eq_true hc.2]; rfl)]
  unfold numTok
  have hl : (c :: M).length = M.length + 1 := List.length_cons ..
  rw [hp, if_neg (by omega)]
  rfl
theorem step_in (n d : Int) (h0 : 0 ≤ n) (h1 : n ≤ 100000000) (h2 : 0 ≤ d) (h3 : d ≤ 9) : numStep n (48 + d) = 10 * n + d := by
  unfold numStep
  rw [wrapIn (10 * n) (by omega) (by omega), wrapIn (10 * n + (48 + d)) (by omega) (by omega), wrapIn _ (by omega) (by omega)]
  omega
theorem zeros_val : ∀ (z : Nat) (ds : List Int), (List.replicate z 48 ++ ds).foldl numStep 0 = ds.foldl numStep 0
  | 0, ds => by rw [List.replicate_zero, List.nil_append]
  | z + 1, ds => by
    rw [List.replicate_succ, List.cons_append, List.foldl_cons, show numStep 0 48 = 0 from by have := step_in 0 0 (by omega) (by omega) (by omega) (by omega); exact this, zeros_val z ds]
theorem last_step (a2 v : Int) (L : List Int) (k : Nat) (hk : 1000 ≤ k) (h : ∀ r ∈ L, 48 ≤ r ∧ r ≤ 57) (h0 : L ≠ []) (h1 : L.length ≤ 16) (hv : numVal L = v) (v0 : 0 ≤ v) (v1 : v ≤ 1000000)
    (T R : List Int) (hT : ∀ r ∈ T, 0 ≤ r ∧ r ≤ 255) (hTl : T.length ≤ 10) (hR : (sgn T.length T 0).map (fun x => runeP x.2) = R) (hRl : R.length ≤ 10) (five : Bool) (hw : (R.takeWhile isDigit) = if five = true then [53] else [])
    (hR5 : five = true → R = [53]) :
    ∃ o t, interlocutorref3_Fold.f k (strOfNums L ++ strOfNums T) = some (L ++ R, o) ∧ lex_Tokens.f (⟨#[]⟩ : ByteArray) 0 0 ([] : List (S53)) [] [] (L ++ R) = some t ∧
      lex_At.f k t 0 = some [if five = true then ⟨0, (L.length : Int) + 1, 0, 10 * v + 5, (L.length : Int) + 1⟩ else ⟨0, (L.length : Int), 0, v, (L.length : Int)⟩] := by
  obtain ⟨o, ho⟩ := ref_fold6 (strOfNums (L ++ T)) (by rw [nums_size, List.length_append]; omega) k (by rw [nums_size, List.length_append]; omega)
  rw [runes_plain L T h hT, hR] at ho
  have hlen : (L ++ R).length = L.length + R.length := List.length_append
  have hl0 : 0 < L.length := List.length_pos_iff.2 h0
  have htl : ((List.range (L ++ R).length).filterMap (oneFrom (L ++ R))).length ≤ 100 := by
    have := List.length_filterMap_le (oneFrom (L ++ R)) (List.range (L ++ R).length)
    rw [List.length_range] at this
    omega
  refine ⟨o, _, by rw [nums_append]; exact ho, tokens_none _ _ _ _ _ _ (by omega), ?_⟩
  rw [at_ok 0 _ (by omega) k (by omega), at_first _ _ (by omega)]
  cases five with
  | false =>
    rw [if_neg Bool.false_ne_true] at hw ⊢
    rw [first_num L R h h0 L.length (by rw [hw]; rfl) (by omega), List.take_left, hv]
    rfl
  | true =>
    rw [if_pos rfl] at hw ⊢
    have hR' := hR5 rfl
    subst hR'
    rw [first_num L [53] h h0 (L.length + 1) (by rw [hw]; rfl) (by omega), List.take_of_length_le (show (L ++ [53]).length ≤ L.length + 1 by rw [List.length_append]; exact Nat.le_refl _)]
    have : numVal (L ++ [53]) = 10 * v + 5 := by
      unfold numVal at hv ⊢
      rw [List.foldl_append, hv, List.foldl_cons, List.foldl_nil]
      exact step_in v 5 v0 (by omega) (by omega) (by omega)
    rw [this]
    rfl
theorem tail_ok (a2 v : Int) (z : Nat) (ds : List Int) (hz : z ≤ 4) (hd : ∀ r ∈ ds, 48 ≤ r ∧ r ≤ 57) (hn : ds ≠ []) (hl : ds.length ≤ 8) (hv : ds.foldl numStep 0 = v) (v0 : 0 ≤ v) (v1 : v ≤ 1000000) (k : Nat) (hk : 1000 ≤ k) :
    interlocutorlaw6_LexNumbers.l1 (k + 1) a2 v (strOfNums (List.replicate z 48)) (strOfNums ds) 0 = some true := by
  have hL : ∀ r ∈ List.replicate z 48 ++ ds, (48 : Int) ≤ r ∧ r ≤ 57 := by
    intro r hr
    rcases List.mem_append.1 hr with hr | hr
    · have := List.eq_of_mem_replicate hr
      omega
    · exact hd r hr
  have hL0 : List.replicate z 48 ++ ds ≠ [] := fun e => hn (List.append_eq_nil_iff.1 e).2
  have hLl : (List.replicate z (48 : Int) ++ ds).length = z + ds.length := by rw [List.length_append, List.length_replicate]
  have hLv : numVal (List.replicate z 48 ++ ds) = v := by unfold numVal; rw [zeros_val, hv]
  have hnz : ¬ (strOfNums ds).toList = ([] : List UInt8) := fun e => hn ((nums_nil ds).1 e)
  have hs1 : (strOfNums (List.replicate z 48)).size = z := by rw [nums_size, List.length_replicate]
  have hs2 : (strOfNums ds).size = ds.length := nums_size ds
  simp only [interlocutorlaw6_LexNumbers.l1]
  rw [if_neg (by omega), if_neg hnz, if_pos (by omega), Option.bind_some, within_ok a2 6 (by omega) (by omega), Option.bind_some, if_pos (by omega), if_pos (by simp only [List.length_cons, List.length_nil]; omega), nums_append]
  have hs3 : (strOfNums (List.replicate z 48 ++ ds)).size = z + ds.length := by rw [nums_size, hLl]
  have hw5 : wrap64 (wrap64 (10 * v) + 5) = 10 * v + 5 := by rw [wrapIn (10 * v) (by omega) (by omega), wrapIn _ (by omega) (by omega)]
  have hwl : wrap64 (((z + ds.length : Nat) : Int) + 1) = ((z + ds.length : Nat) : Int) + 1 := wrapIn _ (by omega) (by omega)
  have hc : a2 % 6 = 0 ∨ a2 % 6 = 1 ∨ a2 % 6 = 2 ∨ a2 % 6 = 3 ∨ a2 % 6 = 4 ∨ a2 % 6 = 5 := by omega
  generalize hLg : List.replicate z 48 ++ ds = L at *
  rw [hs3, hw5, hwl]
  rcases hc with c | c | c | c | c | c <;> rw [c]
  · obtain ⟨o, t, f1, f2, f3⟩ := last_step a2 v L k hk hL hL0 (by omega) hLv v0 v1 [] [] (by decide) (by decide) (by kernel_rfl) (by decide) false (by kernel_rfl) (by decide)
    rw [show rdOf ByteArray.empty [(⟨#[]⟩ : ByteArray), (⟨#[120]⟩ : ByteArray), (⟨#[32, 53]⟩ : ByteArray), (⟨#[47]⟩ : ByteArray), (⟨#[109, 97, 121]⟩ : ByteArray), (⟨#[217, 165]⟩ : ByteArray)] 0 = strOfNums [] from by kernel_rfl]
    rw [if_pos (by rw [nums_size]; simp; omega), f1, Option.bind_some, f2, Option.bind_some, f3, Option.bind_some, hLl]
    simp [rd_T47]
  · obtain ⟨o, t, f1, f2, f3⟩ := last_step a2 v L k hk hL hL0 (by omega) hLv v0 v1 [120] [120] (by decide) (by decide) (by kernel_rfl) (by decide) false (by kernel_rfl) (by decide)
    rw [show rdOf ByteArray.empty [(⟨#[]⟩ : ByteArray), (⟨#[120]⟩ : ByteArray), (⟨#[32, 53]⟩ : ByteArray), (⟨#[47]⟩ : ByteArray), (⟨#[109, 97, 121]⟩ : ByteArray), (⟨#[217, 165]⟩ : ByteArray)] 1 = strOfNums [120] from by kernel_rfl]
    rw [if_pos (by rw [nums_size]; simp; omega), f1, Option.bind_some, f2, Option.bind_some, f3, Option.bind_some, hLl]
    simp [rd_T47]
  · obtain ⟨o, t, f1, f2, f3⟩ := last_step a2 v L k hk hL hL0 (by omega) hLv v0 v1 [32, 53] [32, 53] (by decide) (by decide) (by kernel_rfl) (by decide) false (by kernel_rfl) (by decide)
    rw [show rdOf ByteArray.empty [(⟨#[]⟩ : ByteArray), (⟨#[120]⟩ : ByteArray), (⟨#[32, 53]⟩ : ByteArray), (⟨#[47]⟩ : ByteArray), (⟨#[109, 97, 121]⟩ : ByteArray), (⟨#[217, 165]⟩ : ByteArray)] 2 = strOfNums [32, 53] from by kernel_rfl]
    rw [if_pos (by rw [nums_size]; simp; omega), f1, Option.bind_some, f2, Option.bind_some, f3, Option.bind_some, hLl]
    simp [rd_T47]
  · obtain ⟨o, t, f1, f2, f3⟩ := last_step a2 v L k hk hL hL0 (by omega) hLv v0 v1 [47] [47] (by decide) (by decide) (by kernel_rfl) (by decide) false (by kernel_rfl) (by decide)
    rw [show rdOf ByteArray.empty [(⟨#[]⟩ : ByteArray), (⟨#[120]⟩ : ByteArray), (⟨#[32, 53]⟩ : ByteArray), (⟨#[47]⟩ : ByteArray), (⟨#[109, 97, 121]⟩ : ByteArray), (⟨#[217, 165]⟩ : ByteArray)] 3 = strOfNums [47] from by kernel_rfl]
    rw [if_pos (by rw [nums_size]; simp; omega), f1, Option.bind_some, f2, Option.bind_some, f3, Option.bind_some, hLl]
    simp [rd_T47]
  · obtain ⟨o, t, f1, f2, f3⟩ := last_step a2 v L k hk hL hL0 (by omega) hLv v0 v1 [109, 97, 121] [109, 97, 121] (by decide) (by decide) (by kernel_rfl) (by decide) false (by kernel_rfl) (by decide)
    rw [show rdOf ByteArray.empty [(⟨#[]⟩ : ByteArray), (⟨#[120]⟩ : ByteArray), (⟨#[32, 53]⟩ : ByteArray), (⟨#[47]⟩ : ByteArray), (⟨#[109, 97, 121]⟩ : ByteArray), (⟨#[217, 165]⟩ : ByteArray)] 4 = strOfNums [109, 97, 121] from by kernel_rfl]
    rw [if_pos (by rw [nums_size]; simp; omega), f1, Option.bind_some, f2, Option.bind_some, f3, Option.bind_some, hLl]
    simp [rd_T47]
  · obtain ⟨o, t, f1, f2, f3⟩ := last_step a2 v L k hk hL hL0 (by omega) hLv v0 v1 [217, 165] [53] (by decide) (by decide) (by kernel_rfl) (by decide) true (by kernel_rfl) (by decide)
    rw [show rdOf ByteArray.empty [(⟨#[]⟩ : ByteArray), (⟨#[120]⟩ : ByteArray), (⟨#[32, 53]⟩ : ByteArray), (⟨#[47]⟩ : ByteArray), (⟨#[109, 97, 121]⟩ : ByteArray), (⟨#[217, 165]⟩ : ByteArray)] 5 = strOfNums [217, 165] from by kernel_rfl]
    rw [if_pos (by rw [nums_size]; simp; omega), f1, Option.bind_some, f2, Option.bind_some, f3, Option.bind_some, hLl]
    simp [rd_T47]
theorem digit_step (x : Int) (h0 : 0 ≤ x) (h1 : x ≤ 1000000) : wrap64 (48 + Int.tmod x 10) % 256 = 48 + x % 10 ∧ wrap64 (Int.tdiv x 10) = x / 10 := by
  rw [Int.tmod_eq_emod_of_nonneg h0, Int.tdiv_eq_ediv_of_nonneg h0, wrapIn _ (by omega) (by omega), wrapIn _ (by omega) (by omega)]
  omega
theorem digits_loop (a2 v : Int) (z : Nat) (hz : z ≤ 4) (v0 : 0 ≤ v) (v1 : v ≤ 1000000) :
    ∀ (d k : Nat) (x : Int) (ds : List Int), 0 ≤ x → x < (10 : Int) ^ d → ds.length + d ≤ 7 → d + 1010 < k → (∀ r ∈ ds, 48 ≤ r ∧ r ≤ 57) → (x = 0 → ds = [] → v = 0) → ds.foldl numStep x = v → x ≤ 1000000 →
      interlocutorlaw6_LexNumbers.l1 k a2 v (strOfNums (List.replicate z 48)) (strOfNums ds) x = some true := by
  have push : ∀ (k : Nat) (x : Int) (ds : List Int), 0 ≤ x → x ≤ 1000000 → ds.length ≤ 7 → (∀ r ∈ ds, 48 ≤ r ∧ r ≤ 57) → ds.foldl numStep x = v →
      strOfNums [wrap64 (48 + Int.tmod x 10) % 256] ++ strOfNums ds = strOfNums ((48 + x % 10) :: ds) ∧ (∀ r ∈ (48 + x % 10) :: ds, 48 ≤ r ∧ r ≤ 57) ∧ ((48 + x % 10) :: ds).foldl numStep (x / 10) = v := by
    intro k x ds h0 h1 hl hd hf
    refine ⟨?_, ?_, ?_⟩
    · rw [(digit_step x h0 h1).1, nums_append]
      rfl
    · intro r hr
      rcases List.mem_cons.1 hr with rfl | hr
      · omega
      · exact hd r hr
    · rw [List.foldl_cons, step_in (x / 10) (x % 10) (by omega) (by omega) (by omega) (by omega), show 10 * (x / 10) + x % 10 = x by omega, hf]
  intro d
  have zero : ∀ (k : Nat) (ds : List Int), ds.length ≤ 7 → 1010 < k → (∀ r ∈ ds, 48 ≤ r ∧ r ≤ 57) → (ds = [] → v = 0) → ds.foldl numStep 0 = v →
      interlocutorlaw6_LexNumbers.l1 k a2 v (strOfNums (List.replicate z 48)) (strOfNums ds) 0 = some true := by
    intro k ds hl hk hd he hf
    obtain ⟨k, rfl⟩ : ∃ m, k = m + 2 := ⟨k - 2, by omega⟩
    by_cases c : ds = []
    · subst c
      obtain ⟨p1, p2, p3⟩ := push k 0 [] (by omega) (by omega) (by omega) hd hf
      have e2 := (digit_step 0 (by omega) (by omega)).2
      have ih := tail_ok a2 v z ((48 + 0 % 10) :: []) hz p2 (by simp) (by simp) p3 v0 v1 k (by omega)
      have hz2 : (strOfNums [wrap64 (48 + Int.tmod 0 10) % 256]).size = 1 := nums_size _
      have hz3 : (strOfNums []).size = 0 := nums_size _
      rw [show k + 2 = (k + 1) + 1 from rfl]
      simp only [interlocutorlaw6_LexNumbers.l1] at ih ⊢
      rw [if_neg (by omega), if_pos ((nums_nil []).2 rfl), Option.bind_some, if_pos (by omega), p1, e2]
      exact ih
    · exact tail_ok a2 v z ds hz hd c (by omega) hf v0 v1 (k + 1) (by omega)
  induction d with
  | zero =>
    intro k x ds h0 h1 hl hk hd he hf hx
    obtain rfl : x = 0 := by
      have : (10 : Int) ^ 0 = 1 := rfl
      omega
    exact zero k ds (by omega) (by omega) hd (he rfl) hf
  | succ d ih =>
    intro k x ds h0 h1 hl hk hd he hf hx
    by_cases c : x > 0
    · obtain ⟨k, rfl⟩ : ∃ m, k = m + 1 := ⟨k - 1, by omega⟩
      obtain ⟨p1, p2, p3⟩ := push k x ds h0 hx (by omega) hd hf
      have e2 := (digit_step x h0 hx).2
      have hz2 : (strOfNums [wrap64 (48 + Int.tmod x 10) % 256]).size = 1 := nums_size _
      have hz3 : (strOfNums ds).size = ds.length := nums_size _
      simp only [interlocutorlaw6_LexNumbers.l1]
      rw [if_pos c, Option.bind_some, if_pos (by omega), p1, e2]
      refine ih k (x / 10) _ (by omega) ?_ (by rw [List.length_cons]; omega) (by omega) p2 (fun _ e => by cases e) p3 (by omega)
      rw [Int.pow_succ] at h1
      generalize (10 : Int) ^ d = q at h1
      omega
    · obtain rfl : x = 0 := by omega
      exact zero k ds (by omega) (by omega) hd (he rfl) hf
theorem noughts_loop (a2 v : Int) (z : Nat) (hz : z ≤ 4) (v0 : 0 ≤ v) (v1 : v < 1000000) : ∀ (d k i : Nat), i + d = z → 2000 + d < k →
    interlocutorlaw6_LexNumbers.l0 k a2 v (z : Int) (strOfNums (List.replicate i 48)) (i : Int) = some true := by
  intro d
  induction d with
  | zero =>
    intro k i hi hk
    obtain ⟨k, rfl⟩ : ∃ m, k = m + 1 := ⟨k - 1, by omega⟩
    obtain rfl : i = z := by omega
    simp only [interlocutorlaw6_LexNumbers.l0]
    rw [if_neg (by omega)]
    exact digits_loop a2 v i hz v0 (by omega) 6 k v [] v0 (by rw [show (10 : Int) ^ 6 = 1000000 from rfl]; exact v1) (by simp) (by omega) (fun r hr => by cases hr) (fun h _ => h) rfl (by omega)
  | succ d ih =>
    intro k i hi hk
    obtain ⟨k, rfl⟩ : ∃ m, k = m + 1 := ⟨k - 1, by omega⟩
    have hs : (strOfNums (List.replicate i 48)).size = i := by rw [nums_size, List.length_replicate]
    have ih' := ih k (i + 1) (by omega) (by omega)
    rw [List.replicate_succ', ← nums_append] at ih'
    simp only [interlocutorlaw6_LexNumbers.l0]
    rw [if_pos (by omega), if_pos (by omega), wrap_succ i (by omega)]
    exact ih'
theorem LexNumbers : interlocutorlaw6_LexNumbers.Pure := by
  intro a0 a1 a2 _ _ _
  obtain ⟨z, hz⟩ : ∃ z : Nat, (z : Int) = a1 % 5 := ⟨(a1 % 5).toNat, by omega⟩
  refine ⟨5000, ?_⟩
  unfold interlocutorlaw6_LexNumbers.f
  rw [known_k _ (by omega), Option.bind_some, if_pos rfl, within_ok _ 1000000 (by omega) (by omega), Option.bind_some, within_ok _ 5 (by omega) (by omega), Option.bind_some, ← hz]
  exact noughts_loop a2 (a0 % 1000000) z (by omega) (by omega) (by omega) z 5000 0 (by omega) (by omega)
end Go.Proofs.Ytgbnfjhmobeloaa.Pure
