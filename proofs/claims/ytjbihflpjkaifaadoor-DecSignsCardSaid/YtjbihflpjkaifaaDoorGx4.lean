-- printed by wip/tool/gprint.py, a program of this work, out of the translation; Lean checks it
import Derived.Test.YtjbihflpjkaifaaDoorGx0
import Derived.Test.YtjbihflpjkaifaaDoorGx3
namespace Go.Proofs.YtjbihflpjkaifaaDoor.G
open Go.RowKit Go.Proofs.YtjbihflpjkaifaaDoorW.PrintWords Go.Proofs.YtjbihflpjkaifaaDoorW.PrintLast Go.Proofs.YtjbihflpjkaifaaDoorW.PrintMore Go.Proofs.YtjbihflpjkaifaaDoorW.VWords Go.Proofs.YtjbihflpjkaifaaDoorW.Tab
attribute [local go_sem] max2_int min2_int max_two min_two max_three min_three max_four min_four   -- for this text's walks alone
set_option linter.unusedVariables false
set_option linter.unusedSimpArgs false

/-! ### dec_Text: function 21 -/
/-- A number's text, with so many of its digits behind the point: its sign; its digits, noughts ahead; the point. -/
def textB (B T : ByteArray) (s : Nat) : ByteArray :=
  if s = 0 then B ++ T else
  let X : ByteArray := ⟨(Lib.repeatL [48] (s + 1 - T.size)).toArray⟩ ++ T
  B ++ X.extract 0 (X.size - s) ++ ⟨#[46]⟩ ++ X.extract (X.size - s) X.size
def dec_Text.f (a0 : Int) (a1 : Int) : Option ByteArray :=
  if -1000000000000000000 < a0 ∧ a0 < 1000000000000000000 ∧ 0 ≤ a1 ∧ a1 ≤ 18 then
    some (if a0 < 0 then textB ⟨#[45]⟩ ((⟨(Lib.itoa a0).toArray⟩ : ByteArray).extract 1 (⟨(Lib.itoa a0).toArray⟩ : ByteArray).size) a1.toNat else textB ⟨#[]⟩ ⟨(Lib.itoa a0).toArray⟩ a1.toNat) else none
set_option maxHeartbeats 4000000 in
set_option maxRecDepth 100000 in
theorem dec_Text_neg (a0 a1 : Int) (S : ByteArray) (hS : strconv_Itoa.f a0 = some S) (h0 : a0 < 0) (hs1 : 2 ≤ S.size) (hs2 : S.size ≤ 20) (ha0 : 0 ≤ a1) (ha1 : a1 ≤ 18) (R : ByteArray) (hR : textB ⟨#[45]⟩ (S.extract 1 S.size) a1.toNat = R) (w : World) (hT_ : YtjbihflpjkaifaaDoorW.Tab.TabOK w) :
    Calls Tryd.prog 21 #[.int .i64 a0, .int .i64 a1] w fun e w' => e = .returned (.string R) ∧ Below w.heap.size w w' := by
  have HT_ := Aside0.mk hT_
  clear hT_
  have HB := Aside0.mk (Below.refl w.heap.size w)
  have A3 := Aside0.mk hS
  have c4b0 : decide (a0 < 0) = true := decide_eq_true h0
  have c5b0 : (1 ≤ (S.size : Int)) = True := eq_true (by omega)
  have c5b1 : decide (1 ≤ (S.size : Int)) = true := decide_eq_true (by omega)
  clear hS
  go_enter Tryd.func21, Tryd.ntmps21
  go_wp2_with (first | (go_at_call 32; (with_reducible refine (strconv_Itoa.calls a0 S _ A3.out HT_.out).mono ?_); rintro e w8 ⟨rfl, hb⟩; have n0_ := Aside0.mk (below_step HB.out hb); clear HB; have HB := n0_; clear n0_; (try clear hb)))
  go_quiet (fail)
  obtain ⟨T, hT⟩ : ∃ T, S.extract 1 S.size = T := ⟨_, rfl⟩
  have hT1 : 1 ≤ T.size := by rw [← hT, ByteArray.size_extract]; omega
  have hT2 : T.size ≤ 19 := by rw [← hT, ByteArray.size_extract]; omega
  rw [hT] at hR ⊢
  clear hT c5b0 c5b1 hs1 hs2 HT_ A3
  rcases Nat.eq_zero_or_pos a1.toNat with hz | hz
  · obtain rfl : a1 = 0 := by omega
    have hb1 : (9223372036854775807 < 1 + T.size) = False := eq_false (by omega)
    go_wp2
    go_ret
    rw [textB, if_pos (by rfl)] at hR
    exact ⟨by rw [← hR]; rfl, by repeat (first | (with_reducible first | exact HB.out | apply below_alloc | apply pw_below_drewN | apply below_drew1) | exact HB.out)⟩
  · obtain ⟨n, rfl⟩ : ∃ n : Nat, a1 = (n : Int) := ⟨a1.toNat, by omega⟩
    have hn1 : 1 ≤ n := by omega
    have hn2 : n ≤ 18 := by omega
    have c6b0 : decide ((n : Int) ≤ 0) = false := decide_eq_false (by omega)
    have hmin : (if 18 < (n : Int) then 18 else (n : Int)) = (n : Int) := if_neg (by omega)
    obtain ⟨c, hc⟩ : ∃ c : Nat, c = n + 1 - T.size := ⟨_, rfl⟩
    obtain ⟨r, hr⟩ : ∃ r : ByteArray, r = ⟨(Lib.repeatL [48] c).toArray⟩ := ⟨_, rfl⟩
    have A11 := Aside0.mk (show strings_Repeat.f (⟨#[48]⟩ : ByteArray) (c : Int) = some r by
      rw [hr]; unfold strings_Repeat.f; rw [if_pos (by refine ⟨by omega, by omega, by decide⟩)]; rfl)
    have hrs : r.size = c := by rw [hr]; show (Lib.repeatL [48] c).toArray.size = c; rw [List.size_toArray, Lib.repeatL_length]; simp
    have hb2 : (9223372036854775807 < r.size + T.size) = False := eq_false (by omega)
    obtain ⟨q, hq⟩ : ∃ q : Nat, q = r.size + T.size - n := ⟨_, rfl⟩
    have hR2 : (⟨#[45]⟩ : ByteArray) ++ (r ++ T).extract 0 q ++ ⟨#[46]⟩ ++ (r ++ T).extract q (r.size + T.size) = R := by
      rw [← hR, textB, if_neg (by omega), show (n : Int).toNat + 1 - T.size = c from by omega, ← hr, hq]
      simp only [ByteArray.size_append, Int.toNat_natCast]
    have hwq : wrap64 ((r.size : Int) + (T.size : Int) - (n : Int)) = (q : Int) := by unfold wrap64; omega
    have hq0 : ((q : Int) < 0) = False := eq_false (by omega)
    have hq1 : (0 ≤ (q : Int)) = True := eq_true (by omega)
    have hq2 : ((q : Int) ≤ (r.size : Int) + (T.size : Int)) = True := eq_true (by omega)
    have hq3 : (q ≤ r.size + T.size) = True := eq_true (by omega)
    have hmq : min q (r.size + T.size) = q := by omega
    have hb3 : (9223372036854775807 < 1 + q) = False := eq_false (by omega)
    have hb3a : (9223372036854775807 < 1 + min q (r.size + T.size)) = False := eq_false (by omega)
    have hb4 : (9223372036854775807 < 1 + q + 1) = False := eq_false (by omega)
    have hb4a : (9223372036854775807 < 1 + min q (r.size + T.size) + 1) = False := eq_false (by omega)
    have hb5 : (9223372036854775807 < 1 + q + 1 + (r.size + T.size - q)) = False := eq_false (by omega)
    have hb5a : (9223372036854775807 < 1 + min q (r.size + T.size) + 1 + (r.size + T.size - q)) = False := eq_false (by omega)
    have HC := Aside0.mk hc
    have HQ := Aside0.mk (show q + n = r.size + T.size by omega)
    have HRS := Aside0.mk hrs
    have HR2 := Aside0.mk hR2
    clear hz ha0 ha1 hR hr hc hrs hR2 hq
    go_wp2_with (first | (go_at_call 33; (with_reducible refine (strings_Repeat.calls (⟨#[48]⟩ : ByteArray) _ r _ ?hA_).mono ?_); (case hA_ => first | (rw [show ((n : Int) + 1 - (T.size : Int)) = (c : Int) from by have := HC.out; omega]; exact A11.out) | (rw [show (0 : Int) = (c : Int) from by have := HC.out; omega]; exact A11.out)); rintro e w22 ⟨rfl, hb⟩; have n0_ := Aside0.mk (below_step (by repeat (first | (with_reducible first | exact HB.out | apply below_alloc | apply pw_below_drewN | apply below_drew1) | exact HB.out)) hb); clear HB; have HB := n0_; clear n0_; (try clear hb)))
    all_goals go_quiet (fail)
    all_goals go_wp2
    all_goals go_ret
    all_goals exact ⟨by rw [← HR2.out]; rfl, by repeat (first | (with_reducible first | exact HB.out | apply below_alloc | apply pw_below_drewN | apply below_drew1) | exact HB.out)⟩
set_option maxHeartbeats 4000000 in
set_option maxRecDepth 100000 in
theorem dec_Text_pos (a0 a1 : Int) (T : ByteArray) (hS : strconv_Itoa.f a0 = some T) (h0 : ¬ a0 < 0) (hT1 : 1 ≤ T.size) (hT2 : T.size ≤ 19) (ha0 : 0 ≤ a1) (ha1 : a1 ≤ 18) (R : ByteArray) (hR : textB ⟨#[]⟩ T a1.toNat = R) (w : World) (hT_ : YtjbihflpjkaifaaDoorW.Tab.TabOK w) :
    Calls Tryd.prog 21 #[.int .i64 a0, .int .i64 a1] w fun e w' => e = .returned (.string R) ∧ Below w.heap.size w w' := by
  have HT_ := Aside0.mk hT_
  clear hT_
  have HB := Aside0.mk (Below.refl w.heap.size w)
  have A3 := Aside0.mk hS
  have c4b0 : decide (a0 < 0) = false := decide_eq_false h0
  clear hS
  rcases Nat.eq_zero_or_pos a1.toNat with hz | hz
  · obtain rfl : a1 = 0 := by omega
    have hb1z : (9223372036854775807 < T.size) = False := eq_false (by omega)
    have hb1 : (9223372036854775807 < 0 + T.size) = False := eq_false (by omega)
    go_enter Tryd.func21, Tryd.ntmps21
    go_wp2_with (first | (go_at_call 32; (with_reducible refine (strconv_Itoa.calls a0 T _ A3.out HT_.out).mono ?_); rintro e w8 ⟨rfl, hb⟩; have n0_ := Aside0.mk (below_step HB.out hb); clear HB; have HB := n0_; clear n0_; (try clear hb)))
    go_ret
    rw [textB, if_pos (by rfl)] at hR
    exact ⟨by rw [← hR]; rfl, by repeat (first | (with_reducible first | exact HB.out | apply below_alloc | apply pw_below_drewN | apply below_drew1) | exact HB.out)⟩
  · obtain ⟨n, rfl⟩ : ∃ n : Nat, a1 = (n : Int) := ⟨a1.toNat, by omega⟩
    have hn1 : 1 ≤ n := by omega
    have hn2 : n ≤ 18 := by omega
    have c6b0 : decide ((n : Int) ≤ 0) = false := decide_eq_false (by omega)
    have hmin : (if 18 < (n : Int) then 18 else (n : Int)) = (n : Int) := if_neg (by omega)
    obtain ⟨c, hc⟩ : ∃ c : Nat, c = n + 1 - T.size := ⟨_, rfl⟩
    obtain ⟨r, hr⟩ : ∃ r : ByteArray, r = ⟨(Lib.repeatL [48] c).toArray⟩ := ⟨_, rfl⟩
    have A11 := Aside0.mk (show strings_Repeat.f (⟨#[48]⟩ : ByteArray) (c : Int) = some r by
      rw [hr]; unfold strings_Repeat.f; rw [if_pos (by refine ⟨by omega, by omega, by decide⟩)]; rfl)
    have hrs : r.size = c := by rw [hr]; show (Lib.repeatL [48] c).toArray.size = c; rw [List.size_toArray, Lib.repeatL_length]; simp
    have hb2 : (9223372036854775807 < r.size + T.size) = False := eq_false (by omega)
    obtain ⟨q, hq⟩ : ∃ q : Nat, q = r.size + T.size - n := ⟨_, rfl⟩
    have hR2 : (⟨#[]⟩ : ByteArray) ++ (r ++ T).extract 0 q ++ ⟨#[46]⟩ ++ (r ++ T).extract q (r.size + T.size) = R := by
      rw [← hR, textB, if_neg (by omega), show (n : Int).toNat + 1 - T.size = c from by omega, ← hr, hq]
      simp only [ByteArray.size_append, Int.toNat_natCast]
    have hwq : wrap64 ((r.size : Int) + (T.size : Int) - (n : Int)) = (q : Int) := by unfold wrap64; omega
    have hq0 : ((q : Int) < 0) = False := eq_false (by omega)
    have hq1 : (0 ≤ (q : Int)) = True := eq_true (by omega)
    have hq2 : ((q : Int) ≤ (r.size : Int) + (T.size : Int)) = True := eq_true (by omega)
    have hq3 : (q ≤ r.size + T.size) = True := eq_true (by omega)
    have hmq : min q (r.size + T.size) = q := by omega
    have hb3z : (9223372036854775807 < q) = False := eq_false (by omega)
    have hb4z : (9223372036854775807 < q + 1) = False := eq_false (by omega)
    have hb5z : (9223372036854775807 < q + 1 + (r.size + T.size - q)) = False := eq_false (by omega)
    have hb3 : (9223372036854775807 < 0 + q) = False := eq_false (by omega)
    have hb3a : (9223372036854775807 < 0 + min q (r.size + T.size)) = False := eq_false (by omega)
    have hb4 : (9223372036854775807 < 0 + q + 1) = False := eq_false (by omega)
    have hb4a : (9223372036854775807 < 0 + min q (r.size + T.size) + 1) = False := eq_false (by omega)
    have hb5 : (9223372036854775807 < 0 + q + 1 + (r.size + T.size - q)) = False := eq_false (by omega)
    have hb5a : (9223372036854775807 < 0 + min q (r.size + T.size) + 1 + (r.size + T.size - q)) = False := eq_false (by omega)
    have HC := Aside0.mk hc
    have HQ := Aside0.mk (show q + n = r.size + T.size by omega)
    have HRS := Aside0.mk hrs
    have HR2 := Aside0.mk hR2
    clear hz ha0 ha1 hR hr hc hrs hR2 hq
    go_enter Tryd.func21, Tryd.ntmps21
    go_wp2_with (first | (go_at_call 32; (with_reducible refine (strconv_Itoa.calls a0 T _ A3.out HT_.out).mono ?_); rintro e w8 ⟨rfl, hb⟩; have n0_ := Aside0.mk (below_step HB.out hb); clear HB; have HB := n0_; clear n0_; (try clear hb)) | (go_at_call 33; (with_reducible refine (strings_Repeat.calls (⟨#[48]⟩ : ByteArray) _ r _ ?hA_).mono ?_); (case hA_ => first | (rw [show ((n : Int) + 1 - (T.size : Int)) = (c : Int) from by have := HC.out; omega]; exact A11.out) | (rw [show (0 : Int) = (c : Int) from by have := HC.out; omega]; exact A11.out)); rintro e w22 ⟨rfl, hb⟩; have n0_ := Aside0.mk (below_step (by repeat (first | (with_reducible first | exact HB.out | apply below_alloc | apply pw_below_drewN | apply below_drew1) | exact HB.out)) hb); clear HB; have HB := n0_; clear n0_; (try clear hb)))
    all_goals go_quiet (fail)
    all_goals go_wp2
    all_goals go_ret
    all_goals exact ⟨by rw [← HR2.out]; rfl, by repeat (first | (with_reducible first | exact HB.out | apply below_alloc | apply pw_below_drewN | apply below_drew1) | exact HB.out)⟩
theorem nDigits_le : ∀ (k u : Nat), u < 10 ^ (k + 1) → Lib.nDigits u ≤ k + 1
  | 0, u, h => by rw [Lib.nDigits_small (by simpa using h)]; omega
  | k + 1, u, h => by
    by_cases h9 : u < 10
    · rw [Lib.nDigits_small h9]; omega
    · rw [Lib.nDigits_big h9]
      have := nDigits_le k (u / 10) (by rw [Nat.div_lt_iff_lt_mul (by decide)]; rw [Nat.pow_succ] at h; exact h)
      omega
theorem itoa_size_neg (a0 : Int) (h0 : a0 < 0) (h1 : -1000000000000000000 < a0) : 2 ≤ (⟨(Lib.itoa a0).toArray⟩ : ByteArray).size ∧ (⟨(Lib.itoa a0).toArray⟩ : ByteArray).size ≤ 20 := by
  have hp : (10 : Nat) ^ (17 + 1) = 1000000000000000000 := by decide
  have h2 := nDigits_le 17 a0.natAbs (by omega)
  have h3 := Lib.nDigits_pos a0.natAbs
  have e : (⟨(Lib.itoa a0).toArray⟩ : ByteArray).size = Lib.nDigits a0.natAbs + 1 := by
    show (Lib.itoa a0).toArray.size = _
    rw [List.size_toArray, Lib.itoa, if_pos h0, List.length_cons, Lib.decDigits_length]
  omega
theorem itoa_size_pos (a0 : Int) (h0 : ¬ a0 < 0) (h1 : a0 < 1000000000000000000) : 1 ≤ (⟨(Lib.itoa a0).toArray⟩ : ByteArray).size ∧ (⟨(Lib.itoa a0).toArray⟩ : ByteArray).size ≤ 19 := by
  have hp : (10 : Nat) ^ (17 + 1) = 1000000000000000000 := by decide
  have h2 := nDigits_le 17 a0.toNat (by omega)
  have h3 := Lib.nDigits_pos a0.toNat
  have e : (⟨(Lib.itoa a0).toArray⟩ : ByteArray).size = Lib.nDigits a0.toNat := by
    show (Lib.itoa a0).toArray.size = _
    rw [List.size_toArray, Lib.itoa, if_neg h0, Lib.decDigits_length]
  omega
theorem dec_Text.calls (a0 : Int) (a1 : Int) (r : ByteArray) (w : World) (h : dec_Text.f a0 a1 = some r) (hT_ : YtjbihflpjkaifaaDoorW.Tab.TabOK w) :
    Calls Tryd.prog 21 #[.int .i64 a0, .int .i64 a1] w fun e w' => e = .returned (.string r) ∧ Below w.heap.size w w' := by
  unfold dec_Text.f at h
  by_cases hm : -1000000000000000000 < a0 ∧ a0 < 1000000000000000000 ∧ 0 ≤ a1 ∧ a1 ≤ 18
  · rw [if_pos hm] at h
    have hI : strconv_Itoa.f a0 = some ⟨(Lib.itoa a0).toArray⟩ := by unfold strconv_Itoa.f; rw [if_pos (by omega)]
    by_cases h0 : a0 < 0
    · rw [if_pos h0] at h
      exact dec_Text_neg a0 a1 _ hI h0 (itoa_size_neg a0 h0 hm.1).1 (itoa_size_neg a0 h0 hm.1).2 hm.2.2.1 hm.2.2.2 r (Option.some.inj h) w hT_
    · rw [if_neg h0] at h
      exact dec_Text_pos a0 a1 _ hI h0 (itoa_size_pos a0 h0 hm.2.1).1 (itoa_size_pos a0 h0 hm.2.1).2 hm.2.2.1 hm.2.2.2 r (Option.some.inj h) w hT_
  · rw [if_neg hm] at h
    cases h

end Go.Proofs.YtjbihflpjkaifaaDoor.G
