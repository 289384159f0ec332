import Derived.Test.YtgbnfjhmobeloaaGx0
import Derived.Test.YtgbnfjhmobeloaaGx11
namespace Go.Proofs.Ytgbnfjhmobeloaa.G
open Go.RowKit Go.Proofs.YtgbnfjhmobeloaaW.PrintWords Go.Proofs.YtgbnfjhmobeloaaW.PrintLast Go.Proofs.YtgbnfjhmobeloaaW.PrintMore Go.Proofs.YtgbnfjhmobeloaaW.VWords
attribute [local go_sem] max2_int min2_int max_two min_two max_three min_three max_four min_four
set_option linter.unusedVariables false
set_option linter.unusedSimpArgs false
def marksL : List UInt8 := [47, 45, 46, 44, 58, 43, 36, 37, 40, 41, 39]
def markAt (r : Int) : Int := if 0 ≤ r ∧ r ≤ 127 then Lib.indexByte marksL r.toNat.toUInt8 else -1
def markTok (l : List Int) (i : Nat) : Option S47 := if 0 ≤ markAt (l.getD i 0) then some ⟨0, ((i + 1 : Nat) : Int), 50 + markAt (l.getD i 0), 0, 0⟩ else none
theorem indexByte_lt : ∀ (l : List UInt8) (c : UInt8), -1 ≤ Lib.indexByte l c ∧ Lib.indexByte l c < l.length
 | [], _ => by unfold Lib.indexByte; decide
 | b :: l, c => by
  have ih := indexByte_lt l c
  unfold Lib.indexByte
  simp only [List.length_cons]
  split
  ·omega
  ·split
   ·omega
   ·omega
set_option maxHeartbeats 2000000 in
set_option maxRecDepth 100000 in
theorem mark_walk (A : Option Addr) (c i : Nat) (l : List Int) (w : World) (hC : Kd.C (Kd.int .i64) w A l.length l) (hi : i < l.length) (hm : l.length ≤ 1000000000000) :
  Calls Try.prog 59 #[.slice A l.length c, .int .i64 i] w fun e w' => ∃ x : S47, e = .returned (.tuple #[encA x, .bool (markTok l i).isSome]) ∧ (∀ t, markTok l i = some t → x = t) ∧ Below w.heap.size w w' := by
 have hu47 := Try.underlying47
 have HB := Aside0.mk (Below.refl w.heap.size w)
 obtain ⟨ad, e0, hcell⟩ := ReadsOf.at_ ((Kd.reads_of_C (enc := Value.int .i64) (d := (0 : Int)) (h1 := fun _ => rfl) hC).below (below_alloc HB.out (.cells #[.int .i64 0, .int .i64 0, .int .i64 0, .int .i64 0, .int .i64 0] 47))) (i : Int) (by omega) (by omega)
 subst e0
 obtain ⟨r, hr⟩ : ∃ r, r = l.getD i 0 := ⟨_, rfl⟩
 rw [Int.toNat_natCast, show rdOf (0 : Int) l (i : Int) = r by unfold rdOf; rw [Int.toNat_natCast, hr]] at hcell
 have HMK := Aside0.mk (show markTok l i = if 0 ≤ markAt r then some ⟨0, ((i + 1 : Nat) : Int), 50 + markAt r, 0, 0⟩ else none by rw [hr]; rfl)
 have HW := Aside0.mk (show wrap64 ((i : Int) + 1) = ((i + 1 : Nat) : Int) by unfold wrap64; omega)
 have hi0 : (i : Int) < (l.length : Int) := by omega
 clear hr hC hi hm
 rcases Int.lt_or_le r 0 with h1 | h1
 ·have HN := Aside0.mk (show markTok l i = none by rw [HMK.out]; unfold markAt; rw [if_neg (by omega : ¬ (0 ≤ r ∧ r ≤ 127))]; exact if_neg (by decide))
  go_enter Try.func59, Try.ntmps59
  go_wp2
  (try simp only [Exit.inBlock, Exit.then]); refine bodyPost_ret (results_ct rfl _ _ w.heap.size 47 _ (0, 0) _ rfl (blk_new w _) hu47 rfl (by kernel_rfl)) rfl ?_
  exact ⟨z47, by rw [HN.out]; rfl, fun t h => (by rw [HN.out] at h; cases h), below_alloc HB.out _⟩
 ·have h1b : ¬ r < 0 := by omega
  rcases Int.lt_or_le 127 r with h2 | h2
  ·have HN := Aside0.mk (show markTok l i = none by rw [HMK.out]; unfold markAt; rw [if_neg (by omega : ¬ (0 ≤ r ∧ r ≤ 127))]; exact if_neg (by decide))
   go_enter Try.func59, Try.ntmps59
   go_wp2
   (try simp only [Exit.inBlock, Exit.then]); refine bodyPost_ret (results_ct rfl _ _ w.heap.size 47 _ (0, 0) _ rfl (blk_new w _) hu47 rfl (by kernel_rfl)) rfl ?_
   exact ⟨z47, by rw [HN.out]; rfl, fun t h => (by rw [HN.out] at h; cases h), below_alloc HB.out _⟩
  ·have h2b : ¬ 127 < r := by omega
   have hw8 : IntKind.u8.wrap r = r := by simp [IntKind.wrap, IntKind.bits, IntKind.signed]; omega
   obtain ⟨kk, hkk⟩ : ∃ kk, kk = markAt r := ⟨_, rfl⟩
   have hk2 : Lib.indexByte marksL r.toNat.toUInt8 = kk := by rw [hkk]; unfold markAt; rw [if_pos ⟨h1, h2⟩]
   have hb := indexByte_lt marksL r.toNat.toUInt8
   rw [hk2] at hb
   have HK := Aside0.mk hk2
   have HKB := Aside0.mk (show -1 ≤ kk ∧ kk < 11 from hb)
   rw [← hkk] at HMK
   have HW2 := Aside0.mk (show wrap64 (50 + kk) = 50 + kk by have := HKB.out; unfold wrap64; omega)
   clear hk2 hb hkk
   go_enter Try.func59, Try.ntmps59
   go_wp2_with (first
    | (go_at_call 77; (refine (Try.strings_IndexByte ⟨#[47, 45, 46, 44, 58, 43, 36, 37, 40, 41, 39]⟩ r _).mono ?_); rintro e w1 ⟨he, rfl⟩; rw [show Lib.indexByte (⟨#[47, 45, 46, 44, 58, 43, 36, 37, 40, 41, 39]⟩ : ByteArray).data.toList r.toNat.toUInt8 = kk from HK.out] at he; subst he))
   (try simp only [Exit.inBlock, Exit.then]); refine bodyPost_ret (results_ct rfl _ _ w.heap.size 47 _ (0, 0) _ rfl (blk_new w _) hu47 rfl (by kernel_rfl)) rfl ?_
   rw [HW.out, HW2.out]
   refine ⟨⟨0, ((i + 1 : Nat) : Int), 50 + kk, 0, 0⟩, ?_, fun t h => ?_, below_alloc HB.out _⟩
   ·rw [HMK.out]
    by_cases h : 0 ≤ kk
    ·rw [if_pos h]
     show Ending.returned (.tuple #[_, .bool (decide (0 ≤ kk))]) = _
     rw [decide_eq_true h]
     rfl
    ·rw [if_neg h]
     show Ending.returned (.tuple #[_, .bool (decide (0 ≤ kk))]) = _
     rw [decide_eq_false h]
     rfl
   ·rw [HMK.out] at h
    by_cases h0 : 0 ≤ kk
    ·rw [if_pos h0] at h
     exact Option.some.inj h
    ·rw [if_neg h0] at h
     cases h
def lex_text_int.l0 : Nat → List Int → List Int → Int → Int → Option (Bool)
 | 0, _, _, _, _ => none
 | k + 1, x0, x1, x12, x13 => if x13 < x12 then (if 0 ≤ x13 then (if x13 < (x0.length : Int) then (if x13 < (x1.length : Int) then (if (rd x0 x13) = (rd x1 x13) then (lex_text_int.l0 k x0 x1 x12 (wrap64 (x13 + 1))) else (some false)) else (none)) else (none)) else (none)) else (some true)
def lex_text_int.f (k : Nat) (l0 : List Int) (l1 : List Int) : Option (Bool) := if (l0.length : Int) = (l1.length : Int) then (lex_text_int.l0 k l0 l1 (l0.length : Int) 0) else (some false)
theorem lex_text_int.mono_l : ∀ k, (∀ y0 y1 y2 y3, LeO (lex_text_int.l0 k y0 y1 y2 y3) (lex_text_int.l0 (k + 1) y0 y1 y2 y3))
 | 0 => fun _ _ _ _ r h => by simp [lex_text_int.l0] at h
 | k + 1 => by
  have ih0 := lex_text_int.mono_l k
  ·intro y0 y1 y2 y3
   unfold lex_text_int.l0
   repeat' first
   | (with_reducible exact ih0 _ _ _ _)
   | (with_reducible exact LeO.refl _)
   | (with_reducible exact LeO.none _)
   | (with_reducible refine LeO.ite ?_ ?_)
   | (with_reducible refine LeO.bind ?_ (fun _ => ?_))
   | exact ih0 _ _ _ _
   | exact LeO.none _
   | refine LeO.ite ?_ ?_
   | refine LeO.bind ?_ (fun _ => ?_)
set_option maxHeartbeats 8000000 in
set_option maxRecDepth 100000 in
theorem lex_text_int.calls (k : Nat) (A0 : Option Addr) (c0 : Nat) (l0 : List Int) (A1 : Option Addr) (c1 : Nat) (l1 : List Int) (r : Bool) (w : World) (hr0 : Kd.C (Kd.int .i64) w A0 l0.length l0) (hc0 : l0.length ≤ c0) (hr1 : Kd.C (Kd.int .i64) w A1 l1.length l1) (hc1 : l1.length ≤ c1) (h : lex_text_int.f k l0 l1 = some r) :
  Calls Try.prog 78 #[.slice A0 l0.length c0, .slice A1 l1.length c1] w fun e w' => e = .returned (.bool r) ∧ Drawn0 w w' := by
 have HR0 := Aside0.mk hr0
 have HC0 := Aside0.mk hc0
 clear hr0 hc0
 have HR1 := Aside0.mk hr1
 have HC1 := Aside0.mk hc1
 clear hr1 hc1
 have H : (if (l0.length : Int) = (l1.length : Int) then (lex_text_int.l0 k l0 l1 (l0.length : Int) 0) else (some false)) = some r := h
 clear h
 by_cases c3 : (l0.length : Int) = (l1.length : Int)
 ·rw [if_pos c3] at H
  have c3b0 : ((l0.length : Int) == (l1.length : Int)) = true := beq_iff_eq.mpr c3
  have c3b1 : ((l0.length : Int) != (l1.length : Int)) = false := bne_eq_false_iff_eq.mpr c3
  have c3b2 : (l0.length == l1.length) = true := by first | simpa using c3 | (simp at c3 ⊢; omega)
  clear c3
  have H' := Aside0.mk H
  clear H
  go_enter Try.func78, Try.ntmps78
  go_wp2
  repeat (go_quiet (fail); try go_wp2)
  go_loopg [13] k (fun kq v13 w' => ∃ (x13_1 : Int), v13 = .int .i64 x13_1 ∧ Aside0 (lex_text_int.l0 kq l0 l1 (l0.length : Int) x13_1 = some r) ∧ Aside0 (kq ≤ k) ∧ Drawn0 w w')
  case atStart => exact ⟨(0), (by first | rfl | (simp; done) | (simp [*]; done)), H', ⟨Nat.le_refl _⟩, by repeat (first | exact Drawn0.refl _ | apply Drawn0.step)⟩
  case round =>
   clear H'
   try clear c1
   try clear p2
   try clear c3
   try clear c3b0
   try clear c3b1
   try clear c3b2
   obtain ⟨x13_1, rfl, HA, HK1, ⟨m1, rfl⟩⟩ := hrel
   cases gk with
   | zero => exact absurd HA.out (by simp [lex_text_int.l0])
   | succ k1 =>
    have H := HA.out
    clear HA
    simp only [lex_text_int.l0] at H
    by_cases c4 : x13_1 < (l0.length : Int)
    ·rw [if_pos c4] at H
     have c4b0 : decide (x13_1 < (l0.length : Int)) = true := decide_eq_true c4
     clear c4
     by_cases c5 : 0 ≤ x13_1
     ·rw [if_pos c5] at H
      have c5b0 : decide (0 ≤ x13_1) = true := decide_eq_true c5
      clear c5
      by_cases c6 : x13_1 < (l0.length : Int)
      ·rw [if_pos c6] at H
       have c6b0 : decide (x13_1 < (l0.length : Int)) = true := decide_eq_true c6
       clear c6
       by_cases c7 : x13_1 < (l1.length : Int)
       ·rw [if_pos c7] at H
        have c7b0 : decide (x13_1 < (l1.length : Int)) = true := decide_eq_true c7
        clear c7
        by_cases c8 : (rd l0 x13_1) = (rd l1 x13_1)
        ·rw [if_pos c8] at H
         have c8b0 : ((rd l0 x13_1) == (rd l1 x13_1)) = true := beq_iff_eq.mpr c8
         have c8b1 : ((rd l0 x13_1) != (rd l1 x13_1)) = false := bne_eq_false_iff_eq.mpr c8
         clear c8
         have H' := Aside0.mk H
         clear H
         have p157 : 0 ≤ (x13_1 : Int) := of_decide_eq_true (by first | (with_reducible assumption) | assumption)
         have q157 : x13_1 < (l0.length : Int) := of_decide_eq_true (by first | (with_reducible assumption) | assumption)
         obtain ⟨ad157, e157, hx157_0⟩ := Kd.at_int HR0.out x13_1 p157 q157
         cases e157
         replace p157 := eq_true p157
         replace q157 := eq_true q157
         have p158 : 0 ≤ (x13_1 : Int) := of_decide_eq_true (by first | (with_reducible assumption) | assumption)
         have q158 : x13_1 < (l1.length : Int) := of_decide_eq_true (by first | (with_reducible assumption) | assumption)
         obtain ⟨ad158, e158, hx158_0⟩ := Kd.at_int HR1.out x13_1 p158 q158
         cases e158
         replace p158 := eq_true p158
         replace q158 := eq_true q158
         go_wp2
         repeat (go_quiet (fail); try go_wp2)
         go_roundg k1
         case measure => have := HK1.out; omega
         case rel => exact ⟨(wrap64 (x13_1 + 1)), (by first | rfl | (simp; done) | (simp [*]; done)), H', ⟨by have := HK1.out; omega⟩, by repeat (first | exact Drawn0.refl _ | apply Drawn0.step)⟩
        ·rw [if_neg c8] at H
         have c8b0 : ((rd l0 x13_1) == (rd l1 x13_1)) = false := beq_eq_false_iff_ne.mpr c8
         have c8b1 : ((rd l0 x13_1) != (rd l1 x13_1)) = true := bne_iff_ne.mpr c8
         obtain rfl := Option.some.inj H
         have p157 : 0 ≤ (x13_1 : Int) := of_decide_eq_true (by first | (with_reducible assumption) | assumption)
         have q157 : x13_1 < (l0.length : Int) := of_decide_eq_true (by first | (with_reducible assumption) | assumption)
         obtain ⟨ad157, e157, hx157_0⟩ := Kd.at_int HR0.out x13_1 p157 q157
         cases e157
         replace p157 := eq_true p157
         replace q157 := eq_true q157
         have p158 : 0 ≤ (x13_1 : Int) := of_decide_eq_true (by first | (with_reducible assumption) | assumption)
         have q158 : x13_1 < (l1.length : Int) := of_decide_eq_true (by first | (with_reducible assumption) | assumption)
         obtain ⟨ad158, e158, hx158_0⟩ := Kd.at_int HR1.out x13_1 p158 q158
         cases e158
         replace p158 := eq_true p158
         replace q158 := eq_true q158
         go_wp2
         repeat (go_quiet (fail); try go_wp2)
         go_ret
         exact ⟨by first | rfl | (simp; done) | (simp [*]; done), by repeat (first | exact Drawn0.refl _ | apply Drawn0.step)⟩
       ·rw [if_neg c7] at H
        exact absurd H (by simp)
      ·rw [if_neg c6] at H
       exact absurd H (by simp)
     ·rw [if_neg c5] at H
      exact absurd H (by simp)
    ·rw [if_neg c4] at H
     have c4b0 : decide (x13_1 < (l0.length : Int)) = false := decide_eq_false c4
     clear c4
     obtain rfl := Option.some.inj H
     go_wp2
     repeat (go_quiet (fail); try go_wp2)
     go_ret
     exact ⟨by first | rfl | (simp; done) | (simp [*]; done), by repeat (first | exact Drawn0.refl _ | apply Drawn0.step)⟩
 ·rw [if_neg c3] at H
  have c3b0 : ((l0.length : Int) == (l1.length : Int)) = false := beq_eq_false_iff_ne.mpr c3
  have c3b1 : ((l0.length : Int) != (l1.length : Int)) = true := bne_iff_ne.mpr c3
  have c3b2 : (l0.length == l1.length) = false := by first | simpa using c3 | (simp at c3 ⊢; omega)
  obtain rfl := Option.some.inj H
  go_enter Try.func78, Try.ntmps78
  go_wp2
  repeat (go_quiet (fail); try go_wp2)
  go_ret
  exact ⟨by first | rfl | (simp; done) | (simp [*]; done), by repeat (first | exact Drawn0.refl _ | apply Drawn0.step)⟩
theorem equal_loop (a b : List Int) (hl : a.length = b.length) (hm : a.length ≤ 1000000000000) : ∀ (n i : Nat), i + n = a.length → ∀ k, n < k → lex_text_int.l0 k a b (a.length : Int) (i : Int) = some (decide (a.drop i = b.drop i)) := by
 intro n
 induction n with
 | zero =>
  intro i hi k hk
  obtain ⟨k, rfl⟩ : ∃ q, k = q + 1 := ⟨k - 1, by omega⟩
  simp only [lex_text_int.l0]
  rw [if_neg (by omega), List.drop_eq_nil_of_le (by omega), List.drop_eq_nil_of_le (by omega)]
  rfl
 | succ n ih =>
  intro i hi k hk
  obtain ⟨k, rfl⟩ : ∃ q, k = q + 1 := ⟨k - 1, by omega⟩
  have hia : i < a.length := by omega
  have hib : i < b.length := by omega
  have ha : rd a (i : Int) = a[i] := by unfold rd; rw [Int.toNat_natCast, List.getD_eq_getElem?_getD, List.getElem?_eq_getElem hia]; rfl
  have hb : rd b (i : Int) = b[i] := by unfold rd; rw [Int.toNat_natCast, List.getD_eq_getElem?_getD, List.getElem?_eq_getElem hib]; rfl
  have hw : wrap64 ((i : Int) + 1) = ((i + 1 : Nat) : Int) := by unfold wrap64; omega
  simp only [lex_text_int.l0]
  rw [if_pos (by omega), if_pos (by omega), if_pos (by omega), if_pos (by omega), ha, hb, hw, ih (i + 1) (by omega) k (by omega), List.drop_eq_getElem_cons hia, List.drop_eq_getElem_cons hib]
  by_cases h : a[i] = b[i]
  ·rw [if_pos h]
   simp only [h, List.cons.injEq, true_and]
  ·rw [if_neg h]
   simp only [h, List.cons.injEq, false_and, decide_false]
theorem equal_is (a b : List Int) (hm : a.length ≤ 1000000000000) : ∃ k, lex_text_int.f k a b = some (decide (a = b)) := by
 refine ⟨a.length + 1, ?_⟩
 unfold lex_text_int.f
 by_cases h : a.length = b.length
 ·rw [if_pos (by omega)]
  exact equal_loop a b h hm a.length 0 (by omega) _ (by omega)
 ·rw [if_neg (by omega), decide_eq_false (fun e => h (by rw [e]))]
def hereF (l : List Int) (i : Nat) (ws : List Int) : Bool := decide (0 < ws.length) && (decide (ws.length ≤ l.length - i) && decide ((l.take (i + ws.length)).drop i = ws))
set_option maxHeartbeats 2000000 in
set_option maxRecDepth 100000 in
theorem here_walk (A : Option Addr) (c i : Nat) (l : List Int) (A2 : Option Addr) (c2 : Nat) (ws : List Int) (w : World) (hC : Kd.C (Kd.int .i64) w A l.length l) (hc : l.length ≤ c) (hi : i < l.length) (hm : l.length ≤ 1000000000000)
  (hC2 : Kd.C (Kd.int .i64) w A2 ws.length ws) (hc2 : ws.length ≤ c2) (hm2 : ws.length ≤ 1000000000000) :
  Calls Try.prog 60 #[.slice A l.length c, .int .i64 i, .slice A2 ws.length c2] w fun e w' => e = .returned (.bool (hereF l i ws)) ∧ Drawn0 w w' := by
 have HC := Aside0.mk hC
 have HCC := Aside0.mk hc
 have HI := Aside0.mk hi
 have HM := Aside0.mk hm
 have HC2 := Aside0.mk hC2
 have HCC2 := Aside0.mk hc2
 have HM2 := Aside0.mk hm2
 have hs1 : IntKind.i64.wrap ((l.length : Int) - (i : Int)) = ((l.length - i : Nat) : Int) := by rw [IntKind.wrap_i64]; omega
 have hs2 : wrap64 ((l.length : Int) - (i : Int)) = ((l.length - i : Nat) : Int) := (i64_w _).symm.trans hs1
 clear hC hc hi hm hC2 hc2 hm2
 by_cases h0 : 0 < ws.length
 ·have h0i : 0 < (ws.length : Int) := by omega
  by_cases h1 : ws.length ≤ l.length - i
  ·have h1i : (ws.length : Int) ≤ ((l.length - i : Nat) : Int) := by omega
   have ht1 : IntKind.i64.wrap ((i : Int) + (ws.length : Int)) = (i : Int) + (ws.length : Int) := by have := HM.out; rw [IntKind.wrap_i64]; omega
   have ht2 : wrap64 ((i : Int) + (ws.length : Int)) = (i : Int) + (ws.length : Int) := (i64_w _).symm.trans ht1
   obtain ⟨i01, hi01, _, hsz1, _⟩ := info_parts info3
   obtain ⟨A1, hcut, hA1, hC1⟩ := print_mid_of (P := Try.prog) (Value.int .i64) 0 72 3 .i64 .i64 Try.underlying72 hi01 hsz1 A c l (i : Int) ((i : Int) + (ws.length : Int)) (by omega) (by omega) (by have := HI.out; omega) HCC.out
   rw [show ((i : Int) + (ws.length : Int)).toNat = i + ws.length by omega] at hcut hA1 hC1
   simp only [Int.toNat_natCast] at hcut hA1 hC1
   obtain ⟨ds, hds⟩ : ∃ ds, ds = (l.take (i + ws.length)).drop i := ⟨_, rfl⟩
   rw [← hds] at hcut hA1 hC1
   have HDS := Aside0.mk hds
   have HDL := Aside0.mk (show ds.length ≤ 1000000000000 by rw [hds, List.length_drop, List.length_take]; have := HM.out; omega)
   have HR1 := Aside0.mk (Kd.C_of_reads (h1 := fun _ => rfl) (hA1 w (Kd.reads_of_C (enc := Value.int .i64) (d := (0 : Int)) (h1 := fun _ => rfl) HC.out)))
   have HC1 := Aside0.mk hC1
   clear hA1 hC1 hi01 hsz1 hds
   obtain ⟨k, hk⟩ := equal_is ds ws HDL.out
   have HK := Aside0.mk hk
   have HH := Aside0.mk (show hereF l i ws = decide (ds = ws) by unfold hereF; rw [decide_eq_true h0, decide_eq_true h1, ← HDS.out]; simp)
   clear hk
   go_enter Try.func60, Try.ntmps60
   go_wp2_with (first
    | (go_at_call 78; (refine (lex_text_int.calls k A1 (c - i) ds A2 c2 ws _ w HR1.out HC1.out HC2.out HCC2.out HK.out).mono ?_); rintro e w1 ⟨rfl, ⟨nd, rfl⟩⟩))
   go_ret
   exact ⟨by rw [HH.out]; rfl, ⟨nd, rfl⟩⟩
  ·have h1i : ¬ (ws.length : Int) ≤ ((l.length - i : Nat) : Int) := by omega
   have HH := Aside0.mk (show hereF l i ws = false by unfold hereF; rw [decide_eq_false h1]; simp)
   go_enter Try.func60, Try.ntmps60
   go_wp2
   go_ret
   exact ⟨by rw [HH.out]; rfl, Drawn0.refl w⟩
 ·have h0i : ¬ 0 < (ws.length : Int) := by omega
  have HH := Aside0.mk (show hereF l i ws = false by unfold hereF; rw [decide_eq_false h0]; rfl)
  go_enter Try.func60, Try.ntmps60
  go_wp2
  go_ret
  exact ⟨by rw [HH.out]; rfl, Drawn0.refl w⟩
end Go.Proofs.Ytgbnfjhmobeloaa.G
