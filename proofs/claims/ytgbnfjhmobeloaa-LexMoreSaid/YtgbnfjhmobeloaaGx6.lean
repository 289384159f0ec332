import Derived.Test.YtgbnfjhmobeloaaGx0
import Derived.Test.YtgbnfjhmobeloaaGx3
import Derived.Test.YtgbnfjhmobeloaaGx5
namespace Go.Proofs.Ytgbnfjhmobeloaa.G
open Go.RowKit Go.Proofs.YtgbnfjhmobeloaaW.PrintWords Go.Proofs.YtgbnfjhmobeloaaW.PrintLast Go.Proofs.YtgbnfjhmobeloaaW.PrintMore Go.Proofs.YtgbnfjhmobeloaaW.VWords
attribute [local go_sem] max2_int min2_int max_two min_two max_three min_three max_four min_four
set_option linter.unusedVariables false
set_option linter.unusedSimpArgs false
def interlocutorref3_Fold.l0 : Nat → ByteArray → List Int → List Int → Int → Option (List Int × List Int)
 | 0, _, _, _, _ => none
 | k + 1, x0, x4, x5, x6 => if x6 < (x0.size : Int) then (if 0 ≤ x6 then (if x6 ≤ (x0.size : Int) then ((interlocutorref3_next.f k (x0.extract (x6 : Int).toNat x0.size)).bind fun bt120 => ((interlocutorref3_Rune.f k bt120.1).bind fun t122 => (if x4.length < 17592186044416 then (if x5.length < 17592186044416 then (interlocutorref3_Fold.l0 k x0 (x4 ++ [t122]) (x5 ++ [x6]) (wrap64 (x6 + bt120.2))) else (none)) else (none)))) else (none)) else (none)) else (if x5.length < 17592186044416 then (some (x4, (x5 ++ [(x0.size : Int)]))) else (none))
def interlocutorref3_Fold.f (k : Nat) (a0 : ByteArray) : Option (List Int × List Int) := interlocutorref3_Fold.l0 k a0 ([] : List Int) ([] : List Int) 0
theorem interlocutorref3_Fold.mono_l : ∀ k, (∀ y0 y1 y2 y3, LeO (interlocutorref3_Fold.l0 k y0 y1 y2 y3) (interlocutorref3_Fold.l0 (k + 1) y0 y1 y2 y3))
 | 0 => fun _ _ _ _ r h => by simp [interlocutorref3_Fold.l0] at h
 | k + 1 => by
  have ih0 := interlocutorref3_Fold.mono_l k
  ·intro y0 y1 y2 y3
   unfold interlocutorref3_Fold.l0
   repeat' first
   | (with_reducible exact ih0 _ _ _ _)
   | (with_reducible exact interlocutorref3_Rune.mono _ _)
   | (with_reducible exact interlocutorref3_next.mono _ _)
   | (with_reducible exact LeO.refl _)
   | (with_reducible exact LeO.none _)
   | (with_reducible refine LeO.ite ?_ ?_)
   | (with_reducible refine LeO.bind ?_ (fun _ => ?_))
   | exact ih0 _ _ _ _
   | exact interlocutorref3_Rune.mono _ _
   | exact interlocutorref3_next.mono _ _
   | exact LeO.none _
   | refine LeO.ite ?_ ?_
   | refine LeO.bind ?_ (fun _ => ?_)
theorem interlocutorref3_Fold.mono : ∀ a0 k, LeO (interlocutorref3_Fold.f k a0) (interlocutorref3_Fold.f (k + 1) a0) := by
 intro a0 k
 have ih0 := interlocutorref3_Fold.mono_l k
 unfold interlocutorref3_Fold.f
 repeat' first
   | (with_reducible exact ih0 _ _ _ _)
   | (with_reducible exact interlocutorref3_Rune.mono _ _)
   | (with_reducible exact interlocutorref3_next.mono _ _)
   | (with_reducible exact LeO.refl _)
   | (with_reducible exact LeO.none _)
   | (with_reducible refine LeO.ite ?_ ?_)
   | (with_reducible refine LeO.bind ?_ (fun _ => ?_))
   | exact ih0 _ _ _ _
   | exact interlocutorref3_Rune.mono _ _
   | exact interlocutorref3_next.mono _ _
   | exact LeO.none _
   | refine LeO.ite ?_ ?_
   | refine LeO.bind ?_ (fun _ => ?_)
set_option maxHeartbeats 8000000 in
set_option maxRecDepth 100000 in
theorem interlocutorref3_Fold.calls (k : Nat) (a0 : ByteArray) (r1 : List Int) (r2 : List Int) (w : World) (h : interlocutorref3_Fold.f k a0 = some (r1, r2)) :
  Calls Try.prog 19 #[.string a0] w fun e w' => ∃ v0_ v1_ : Value, e = .returned (.tuple #[v0_, v1_]) ∧ Kd.R (Kd.int .i64) 3 w' w.heap.size (fun k_ => some k_ ≠ (v1_ : Value).ownBlock) v0_ r1 ∧ Kd.R (Kd.int .i64) 3 w' w.heap.size (fun k_ => some k_ ≠ (v0_ : Value).ownBlock) v1_ r2 ∧ Below w.heap.size w w' := by
 have HB := Aside0.mk (Below.refl w.heap.size w)
 have H : (interlocutorref3_Fold.l0 k a0 ([] : List Int) ([] : List Int) 0) = some (r1, r2) := h
 clear h
 have H' := Aside0.mk H
 clear H
 go_enter Try.func19, Try.ntmps19
 go_wp2
 go_loopg [4, 5, 6] k (fun kq v4 v5 v6 w' => ∃ (x4_1 : List Int) (x5_1 : List Int) (x6_1 : Int), v6 = .int .i64 x6_1 ∧ Aside0 (interlocutorref3_Fold.l0 kq a0 x4_1 x5_1 x6_1 = some (r1, r2)) ∧ Aside0 (kq ≤ k) ∧ Aside0 (Kd.R (Kd.int .i64) 3 w' w.heap.size (fun k_ => some k_ ≠ (v5 : Value).ownBlock) v4 x4_1) ∧ Aside0 (Kd.R (Kd.int .i64) 3 w' w.heap.size (fun k_ => some k_ ≠ (v4 : Value).ownBlock) v5 x5_1) ∧ Aside0 (Below w.heap.size w w'))
 case atStart => exact ⟨(([] : List Int)), (([] : List Int)), (0), (by first | rfl | (simp; done) | (simp [*]; done)), H', ⟨Nat.le_refl _⟩, ⟨by first | exact Kd.R_nil _ _ _ _ _ | exact Kd.N_nil _ _ _ _ _ | exact Kd.V_nil _ _ _ _ _ | exact Kd.Q_nil _ _ _ _ _ | exact Kd.S_nil _ _ _ _ _⟩, ⟨by first | exact Kd.R_nil _ _ _ _ _ | exact Kd.N_nil _ _ _ _ _ | exact Kd.V_nil _ _ _ _ _ | exact Kd.Q_nil _ _ _ _ _ | exact Kd.S_nil _ _ _ _ _⟩, ⟨by exact wU HB.out⟩⟩
 case round =>
  clear H'
  try clear c1
  obtain ⟨x4_1, x5_1, x6_1, rfl, HA, HK1, HO_4, HO_5, HB⟩ := hrel
  cases gk with
  | zero => exact absurd HA.out (by simp [interlocutorref3_Fold.l0])
  | succ k1 =>
   have H := HA.out
   clear HA
   simp only [interlocutorref3_Fold.l0] at H
   by_cases c2 : x6_1 < (a0.size : Int)
   ·rw [if_pos c2] at H
    have c2b0 : decide (x6_1 < (a0.size : Int)) = true := decide_eq_true c2
    clear c2
    by_cases c3 : 0 ≤ x6_1
    ·rw [if_pos c3] at H
     have c3b0 := eq_true c3
     have c3b1 : decide (0 ≤ x6_1) = true := decide_eq_true c3
     clear c3
     by_cases c4 : x6_1 ≤ (a0.size : Int)
     ·rw [if_pos c4] at H
      have c4b0 := eq_true c4
      have c4b1 : decide (x6_1 ≤ (a0.size : Int)) = true := decide_eq_true c4
      clear c4
      replace H := Option.bind_eq_some_iff.mp H
      obtain ⟨⟨t120, t121⟩, A50, H⟩ := H
      replace H : ((interlocutorref3_Rune.f k1 t120).bind fun t122 => (if x4_1.length < 17592186044416 then (if x5_1.length < 17592186044416 then (interlocutorref3_Fold.l0 k1 a0 (x4_1 ++ [t122]) (x5_1 ++ [x6_1]) (wrap64 (x6_1 + t121))) else (none)) else (none))) = some (r1, r2) := H
      have A5 := Aside0.mk A50
      clear A50
      replace H := Option.bind_eq_some_iff.mp H
      obtain ⟨t122, A60, H⟩ := H
      replace H : (if x4_1.length < 17592186044416 then (if x5_1.length < 17592186044416 then (interlocutorref3_Fold.l0 k1 a0 (x4_1 ++ [t122]) (x5_1 ++ [x6_1]) (wrap64 (x6_1 + t121))) else (none)) else (none)) = some (r1, r2) := H
      have A6 := Aside0.mk A60
      clear A60
      by_cases c7 : x4_1.length < 17592186044416
      ·rw [if_pos c7] at H
       have LMc7 := Aside0.mk c7
       clear c7
       obtain ⟨y123, hy123⟩ : ∃ y_ : List Int, y_ = (x4_1 ++ [t122]) := ⟨_, rfl⟩
       replace H : (if x5_1.length < 17592186044416 then (interlocutorref3_Fold.l0 k1 a0 y123 (x5_1 ++ [x6_1]) (wrap64 (x6_1 + t121))) else (none)) = some (r1, r2) := by first | (rw [hy123]; with_reducible exact H) | (have H2_ := (Option.bind_some _ _).symm.trans H; rw [hy123]; with_reducible exact H2_) | (have H2_ := (Option.bind_some _ _).symm.trans H; with_reducible exact H2_) | with_reducible exact H | (rw [hy123]; exact H) | exact H
       have Ny123 := Aside0.mk hy123
       clear hy123
       by_cases c8 : x5_1.length < 17592186044416
       ·rw [if_pos c8] at H
        have LMc8 := Aside0.mk c8
        clear c8
        obtain ⟨y126, hy126⟩ : ∃ y_ : List Int, y_ = (x5_1 ++ [x6_1]) := ⟨_, rfl⟩
        replace H : (interlocutorref3_Fold.l0 k1 a0 y123 y126 (wrap64 (x6_1 + t121))) = some (r1, r2) := by first | (rw [hy126]; with_reducible exact H) | (have H2_ := (Option.bind_some _ _).symm.trans H; rw [hy126]; with_reducible exact H2_) | (have H2_ := (Option.bind_some _ _).symm.trans H; with_reducible exact H2_) | with_reducible exact H | (rw [hy126]; exact H) | exact H
        have Ny126 := Aside0.mk hy126
        clear hy126
        have H' := Aside0.mk H
        clear H
        go_wp2_with (first | ((with_reducible refine gate_callee (f := 34) rfl ?_); refine goesL_ (some 17) rfl rfl Try.func34 (by kernel_rfl) rfl #[.string (a0.extract (x6_1 : Int).toNat a0.size)] rfl (by (try simp only [List.map_toArray, List.map_cons, List.map_nil]); first | done | rfl | (simp only [List.length_drop, List.length_take]; rfl)) ?_; (with_reducible refine (interlocutorref3_next.calls k1 (a0.extract (x6_1 : Int).toNat a0.size) t120 t121 _ A5.out).mono ?_); rintro e w' ⟨rfl, ⟨nd, rfl⟩⟩; refine ⟨_, rfl, ?_⟩) | ((with_reducible refine gate_callee (f := 35) rfl ?_); refine goesL_ (some 22) rfl rfl Try.func35 (by kernel_rfl) rfl #[.int .i64 t120] rfl (by (try simp only [List.map_toArray, List.map_cons, List.map_nil]); first | done | rfl | (simp only [List.length_drop, List.length_take]; rfl)) ?_; (with_reducible refine (interlocutorref3_Rune.calls k1 t120 t122 _ A6.out).mono ?_); rintro e w' ⟨rfl, ⟨nd, rfl⟩⟩; refine ⟨_, rfl, ?_⟩) | ((with_reducible refine gate_builtin (b := .append) (xs := #[.tmp 20, .tmp 23]) rfl ?_); at_builtin; refine Kd.R_append (Kd.int .i64) (w0 := w) w.heap.size rfl (.tmp 20) (.tmp 23) 25 3 (.int .i64 0) 8 rfl Try.underlying25 info3 rfl (by decide) (by omega) u4 x4_1 t122 [.int .i64 t122] (fun k_ => some k_ ≠ (u5 : Value).ownBlock) (fun _ => False) rfl rfl ?aP (fun _ hk => hk.elim) ?aF ?aO ?aB ?aS ?aL ?_; (case aP => exact rfl); (case aB => exact (by exact wU HB.out)); (case aF => exact (fun k_ hk => Kd.fresh' (Kd.R_lt (by exact rU HO_5.out)) k_ hk)); (case aO => exact (by exact rU HO_4.out)); (case aS => exact (below_size (by exact wU HB.out))); (case aL => have := LMc7.out; omega); intro v124 w9 ho hb hg hat; rw [← Ny123.out] at ho; have n0_ := Aside0.mk (Kd.R_after (ok := (fun _ => True)) (by exact rU (Kd.R_mono HO_5.out (fun _ hk => ⟨trivial, hk⟩))) hg hat); have n1_ := Aside0.mk (hb); have n2_ := Aside0.mk (ho); clear HO_5; clear HB; clear HO_4; have HO_5 := n0_; have HB := n1_; have HO125 := n2_; clear n0_ n1_ n2_; clear ho hb hg hat) | ((with_reducible refine gate_builtin (b := .append) (xs := #[.tmp 25, .tmp 27]) rfl ?_); at_builtin; refine Kd.R_append (Kd.int .i64) (w0 := w) w.heap.size rfl (.tmp 25) (.tmp 27) 25 3 (.int .i64 0) 8 rfl Try.underlying25 info3 rfl (by decide) (by omega) u5 x5_1 x6_1 [.int .i64 x6_1] (fun k_ => some k_ ≠ (v124 : Value).ownBlock) (fun _ => False) rfl rfl ?aP (fun _ hk => hk.elim) ?aF ?aO ?aB ?aS ?aL ?_; (case aP => exact rfl); (case aB => exact (by exact wU HB.out)); (case aF => exact (fun k_ hk => Kd.fresh' (Kd.R_lt (by exact rU HO125.out)) k_ hk)); (case aO => exact (by exact rU (Kd.R_mono HO_5.out (fun _ hk => hk.2)))); (case aS => exact (below_size (by exact wU HB.out))); (case aL => have := LMc8.out; omega); intro v127 w10 ho hb hg hat; rw [← Ny126.out] at ho; have n0_ := Aside0.mk (Kd.R_after (ok := (fun _ => True)) (by exact rU (Kd.R_mono HO125.out (fun _ hk => ⟨trivial, hk⟩))) hg hat); have n1_ := Aside0.mk (hb); have n2_ := Aside0.mk (ho); clear HO125; clear HB; clear HO_5; have HO125 := n0_; have HB := n1_; have HO128 := n2_; clear n0_ n1_ n2_; clear ho hb hg hat))
        go_roundg k1
        case measure => have := HK1.out; omega
        case rel => exact ⟨(y123), (y126), (wrap64 (x6_1 + t121)), (by first | rfl | (simp; done) | (simp [*]; done)), H', ⟨by have := HK1.out; omega⟩, ⟨by exact rU (Kd.R_mono HO125.out (fun _ hk => hk.2))⟩, ⟨by exact rU HO128.out⟩, ⟨by exact wU HB.out⟩⟩
       ·rw [if_neg c8] at H
        exact absurd H (by simp)
      ·rw [if_neg c7] at H
       exact absurd H (by simp)
     ·rw [if_neg c4] at H
      exact absurd H (by simp)
    ·rw [if_neg c3] at H
     exact absurd H (by simp)
   ·rw [if_neg c2] at H
    have c2b0 : decide (x6_1 < (a0.size : Int)) = false := decide_eq_false c2
    clear c2
    by_cases c11 : x5_1.length < 17592186044416
    ·rw [if_pos c11] at H
     have LMc11 := Aside0.mk c11
     clear c11
     obtain ⟨y129, hy129⟩ : ∃ y_ : List Int, y_ = (x5_1 ++ [(a0.size : Int)]) := ⟨_, rfl⟩
     replace H : (some (x4_1, y129)) = some (r1, r2) := by first | (rw [hy129]; with_reducible exact H) | (have H2_ := (Option.bind_some _ _).symm.trans H; rw [hy129]; with_reducible exact H2_) | (have H2_ := (Option.bind_some _ _).symm.trans H; with_reducible exact H2_) | with_reducible exact H | (rw [hy129]; exact H) | exact H
     have Ny129 := Aside0.mk hy129
     clear hy129
     simp only [Option.some.injEq, Prod.mk.injEq] at H
     obtain ⟨rfl, rfl⟩ := H
     go_wp2_with (first | ((with_reducible refine gate_builtin (b := .append) (xs := #[.tmp 33, .tmp 36]) rfl ?_); at_builtin; refine Kd.R_append (Kd.int .i64) (w0 := w) w.heap.size rfl (.tmp 33) (.tmp 36) 25 3 (.int .i64 0) 8 rfl Try.underlying25 info3 rfl (by decide) (by omega) u5 x5_1 (a0.size : Int) [.int .i64 (a0.size : Int)] (fun k_ => some k_ ≠ (u4 : Value).ownBlock) (fun _ => False) rfl rfl ?aP (fun _ hk => hk.elim) ?aF ?aO ?aB ?aS ?aL ?_; (case aP => exact rfl); (case aB => exact (by exact wU HB.out)); (case aF => exact (fun k_ hk => Kd.fresh' (Kd.R_lt (by exact rU HO_4.out)) k_ hk)); (case aO => exact (by exact rU HO_5.out)); (case aS => exact (below_size (by exact wU HB.out))); (case aL => have := LMc11.out; omega); intro v130 w12 ho hb hg hat; rw [← Ny129.out] at ho; have n0_ := Aside0.mk (Kd.R_after (ok := (fun _ => True)) (by exact rU (Kd.R_mono HO_4.out (fun _ hk => ⟨trivial, hk⟩))) hg hat); have n1_ := Aside0.mk (hb); have n2_ := Aside0.mk (ho); clear HO_4; clear HB; clear HO_5; have HO_4 := n0_; have HB := n1_; have HO131 := n2_; clear n0_ n1_ n2_; clear ho hb hg hat))
     go_ret2
     exact ⟨_, _, by first | rfl | (simp [errW_none, errW_some] <;> rfl) | (simp [*, errW_none, errW_some] <;> rfl), by exact rU (Kd.R_mono HO_4.out (fun _ hk => hk.2)), by exact rU HO131.out, by exact wU HB.out⟩
    ·rw [if_neg c11] at H
     exact absurd H (by simp)
def lex_blank.f (a0 : Int) : Option (Bool) := some (a0 == 32)
def lex_digit.f (a0 : Int) : Option (Bool) := if a0 ≥ 48 then (some (decide (a0 ≤ 57))) else (some false)
def pastF (p : Int → Bool) (l : List Int) (i : Nat) : Nat := i + ((l.drop i).takeWhile p).length
theorem pastF_end (p : Int → Bool) (l : List Int) (i : Nat) (h : l.length ≤ i) : pastF p l i = i := by
 unfold pastF
 rw [List.drop_eq_nil_of_le h]
 rfl
theorem pastF_no (p : Int → Bool) (l : List Int) (i : Nat) (h : i < l.length) (hp : p l[i] = false) : pastF p l i = i := by
 unfold pastF
 rw [List.drop_eq_getElem_cons h, List.takeWhile_cons, hp]
 rfl
theorem pastF_yes (p : Int → Bool) (l : List Int) (i : Nat) (h : i < l.length) (hp : p l[i] = true) : pastF p l i = pastF p l (i + 1) := by
 unfold pastF
 rw [List.drop_eq_getElem_cons h, List.takeWhile_cons, hp]
 simp only [if_true, List.length_cons]
 omega
theorem pastF_ge (p : Int → Bool) (l : List Int) (i : Nat) : i ≤ pastF p l i := Nat.le_add_right _ _
theorem pastF_le (p : Int → Bool) (l : List Int) (i : Nat) (h : i ≤ l.length) : pastF p l i ≤ l.length := by
 unfold pastF
 have h1 : ((l.drop i).takeWhile p).length ≤ (l.drop i).length := (List.takeWhile_sublist p).length_le
 rw [List.length_drop] at h1
 omega
def isBlank (r : Int) : Bool := decide (r = 32)
def isDigit (r : Int) : Bool := decide (48 ≤ r) && decide (r ≤ 57)
theorem blank_is (r : Int) (w : World) : Calls Try.prog 39 #[.int .i64 r] w fun e w' => e = .returned (.bool (isBlank r)) ∧ w' = w := by
 by_cases h : r = 32
 ·have h1 := Aside0.mk h
  go_enter Try.func39, Try.ntmps39
  go_wp2
  go_ret
  exact ⟨by simp [isBlank, h1.out], rfl⟩
 ·have h1 := Aside0.mk h
  go_enter Try.func39, Try.ntmps39
  go_wp2
  go_ret
  exact ⟨by simp [isBlank, h1.out], rfl⟩
theorem digit_is (r : Int) (w : World) : Calls Try.prog 76 #[.int .i64 r] w fun e w' => e = .returned (.bool (isDigit r)) ∧ w' = w := by
 rcases Int.lt_or_le r 48 with h | h
 ·have h1 : ¬ 48 ≤ r := by omega
  go_enter Try.func76, Try.ntmps76
  go_wp2
  go_ret
  exact ⟨by simp [isDigit]; omega, rfl⟩
 ·go_enter Try.func76, Try.ntmps76
  go_wp2
  go_ret
  exact ⟨by simp [isDigit, h], rfl⟩
set_option maxHeartbeats 1000000 in
theorem past_walk (f : FuncId) (p : Int → Bool) (ef : ∀ args w, (callFunc f args).run Try.prog w = .ok (.enter f args) w) (hf : ∀ r w, Calls Try.prog f #[.int .i64 r] w fun e w' => e = .returned (.bool (p r)) ∧ w' = w)
  (A : Option Addr) (c at_ : Nat) (l : List Int) (w : World) (hC : Kd.C (Kd.int .i64) w A l.length l) (hat : at_ ≤ l.length) (hm : l.length ≤ maxLen) :
  Calls Try.prog 38 #[.slice A l.length c, .int .i64 at_, .func (.func f) #[] #[]] w fun e w' => e = .returned (.int .i64 (pastF p l at_)) ∧ w' = w := by
 have HC := Aside0.mk hC
 have HM := Aside0.mk hm
 have HA := Aside0.mk hat
 obtain ⟨r, hr⟩ : ∃ r, r = pastF p l at_ := ⟨_, rfl⟩
 rw [← hr]
 have HR := Aside0.mk hr
 clear hC hm hat hr
 go_enter Try.func38, Try.ntmps38
 go_wp2
 go_loopg [1] (l.length - at_) (fun kq v1 wr => ∃ i : Nat, v1 = .int .i64 i ∧ Aside0 (i + kq = l.length) ∧ Aside0 (r = pastF p l i) ∧ wr = w)
 case atStart => exact ⟨at_, rfl, ⟨by have := HA.out; omega⟩, HR, rfl⟩
 case round =>
  clear HR
  obtain ⟨i, rfl, HI, HR, rfl⟩ := hrel
  by_cases hi : i < l.length
  ·cases gk with
   | zero => exact absurd HI.out (by omega)
   | succ k1 =>
    obtain ⟨ad, e0, hcell⟩ := ReadsOf.at_ (Kd.reads_of_C (enc := Value.int .i64) (d := (0 : Int)) (h1 := fun _ => rfl) HC.out) (i : Int) (by omega) (by omega)
    subst e0
    rw [Int.toNat_natCast] at hcell
    have hx : rdOf (0 : Int) l (i : Int) = l[i] := by
     unfold rdOf
     rw [Int.toNat_natCast, List.getD_eq_getElem?_getD, List.getElem?_eq_getElem hi]
     rfl
    rw [hx] at hcell
    clear hx
    have hi0 : (i : Int) < (l.length : Int) := by omega
    have HW := Aside0.mk (show wrap64 ((i : Int) + 1) = ((i + 1 : Nat) : Int) by have := HM.out; unfold maxLen at this; unfold wrap64; omega)
    cases hp : p l[i] with
    | false =>
     go_wp2_with (first | (go_at_fn f; refine (hf _ _).mono ?_; rw [hp]; rintro e w1 ⟨rfl, rfl⟩))
     go_ret
     exact ⟨by rw [HR.out, pastF_no p l i hi hp]; rfl, rfl⟩
    | true =>
     go_wp2_with (first | (go_at_fn f; refine (hf _ _).mono ?_; rw [hp]; rintro e w1 ⟨rfl, rfl⟩))
     go_roundg k1
     case measure => omega
     case rel => exact ⟨i + 1, by rw [HW.out], ⟨by have := HI.out; omega⟩, ⟨by rw [HR.out, pastF_yes p l i hi hp]⟩, rfl⟩
  ·have hi1 : i = l.length := by have := HI.out; omega
   have hi0 : ¬ (i : Int) < (l.length : Int) := by omega
   go_wp2
   go_ret
   exact ⟨by rw [HR.out, pastF_end p l i (by omega), hi1]; rfl, rfl⟩
theorem past_blank (A : Option Addr) (c at_ : Nat) (l : List Int) (w : World) (hC : Kd.C (Kd.int .i64) w A l.length l) (hat : at_ ≤ l.length) (hm : l.length ≤ maxLen) :
  Calls Try.prog 38 #[.slice A l.length c, .int .i64 at_, .func (.func 39) #[] #[]] w fun e w' => e = .returned (.int .i64 (pastF isBlank l at_)) ∧ w' = w :=
 past_walk 39 isBlank (enters_of Try.func39 (by kernel_rfl) rfl) blank_is A c at_ l w hC hat hm
theorem past_digit (A : Option Addr) (c at_ : Nat) (l : List Int) (w : World) (hC : Kd.C (Kd.int .i64) w A l.length l) (hat : at_ ≤ l.length) (hm : l.length ≤ maxLen) :
  Calls Try.prog 38 #[.slice A l.length c, .int .i64 at_, .func (.func 76) #[] #[]] w fun e w' => e = .returned (.int .i64 (pastF isDigit l at_)) ∧ w' = w :=
 past_walk 76 isDigit (enters_of Try.func76 (by kernel_rfl) rfl) digit_is A c at_ l w hC hat hm
theorem beq_cast (a b : Nat) : ((a : Int) == (b : Int)) = decide (a = b) := by
 by_cases h : a = b
 ·subst h
  simp
 ·rw [decide_eq_false h]
  exact beq_eq_false_iff_ne.2 (fun e => h (Int.ofNat.inj e))
def endsF (l : List Int) : List Bool := (List.range (l.length + 1)).map fun p => decide (pastF isBlank l p = l.length)
theorem endsF_len (l : List Int) : (endsF l).length = l.length + 1 := by simp [endsF]
theorem endsF_at (l : List Int) (i : Nat) (h : i < l.length + 1) : (endsF l)[i]? = some (decide (pastF isBlank l i = l.length)) := by simp [endsF, h]
set_option maxHeartbeats 1000000 in
set_option maxRecDepth 100000 in
theorem ends_walk (A : Option Addr) (c : Nat) (l : List Int) (w : World) (hC : Kd.C (Kd.int .i64) w A l.length l) (hm : l.length ≤ 1000000000000) :
  Calls Try.prog 22 #[.slice A l.length c] w fun e w' => ∃ v0_ : Value, e = .returned (v0_) ∧ Kd.R Kd.bool 4 w' w.heap.size (fun _ => True) v0_ (endsF l) ∧ Below w.heap.size w w' := by
 have HC := Aside0.mk hC
 have HM := Aside0.mk hm
 have HNN := Aside0.mk (show wrap64 ((l.length : Int) + 1) = ((l.length + 1 : Nat) : Int) by unfold wrap64; omega)
 have HML := Aside0.mk (show l.length ≤ maxLen by unfold maxLen; omega)
 clear hC hm
 go_enter Try.func22, Try.ntmps22
 go_wp2_with (first
  | ((with_reducible refine gate_dst (N := 10) rfl ?_); refine Kd.R_make Kd.bool (w0 := w) w.heap.size 4 ?hg (N := 10) ?hd 41 (.tmp 9) (.tmp 9) ?ho (wrap64 ((l.length : Int) + 1)) ?hx ?hy Try.underlying41 (.bool false) 1 info4 rfl (by decide) (by decide) false (ok := fun _ => True) (okp := fun _ => False) ?hz (fun _ _ => trivial) trivial ?h0 ?hl (Below.refl _ _) (Nat.le_refl _) ?_; (case hg => rfl); (case hd => rfl); (case ho => rfl); (case hx => rfl); (case hy => rfl); (case hz => rfl); (case h0 => rw [HNN.out]; omega); (case hl => rw [HNN.out]; have := HM.out; omega); intro v10 w10 ho10 hb10 _ _; rw [HNN.out, Int.toNat_natCast] at ho10; obtain ⟨g, cap, hv10, hbg, hlt, _⟩ := Kd.R_form ho10 (by rw [List.length_replicate]; omega); rw [List.length_replicate] at hv10; subst hv10; have HO := Aside0.mk ho10; have HB := Aside0.mk hb10; have HG := Aside0.mk hbg; clear ho10 hb10 hbg hlt))
 go_loopg [13] (l.length + 1) (fun kq v13 wr => ∃ (i : Nat) (zs : List Bool), v13 = .int .i64 i ∧ Aside0 (i + kq = l.length + 1) ∧ Aside0 (zs.length = l.length + 1 ∧ ∀ j, j < i → zs[j]? = (endsF l)[j]?) ∧ Aside0 (Kd.R Kd.bool 4 wr w.heap.size (fun _ => True) (.slice (some ⟨g, 0, none⟩) (l.length + 1) cap) zs) ∧ Aside0 (Below w.heap.size w wr))
 case atStart => exact ⟨0, List.replicate (l.length + 1) false, rfl, ⟨by simp⟩, ⟨by simp, fun j hj => by omega⟩, HO, HB⟩
 case round =>
  clear HO HB
  obtain ⟨i, zs, rfl, HI, HZ, HO, HB⟩ := hrel
  by_cases hi : i < l.length + 1
  ·cases gk with
   | zero => exact absurd HI.out (by omega)
   | succ k1 =>
    have hi0 : (i : Int) < (l.length : Int) + 1 := by omega
    have hi2 : (i : Int) < ((l.length + 1 : Nat) : Int) := by omega
    have HW := Aside0.mk (show wrap64 ((i : Int) + 1) = ((i + 1 : Nat) : Int) by have := HM.out; unfold wrap64; omega)
    have HIL := Aside0.mk (show i ≤ l.length by omega)
    have HC2 := Aside0.mk (Kd.C_below HC.out HB.out)
    obtain ⟨q0, q1⟩ := Kd.R_celln false HO.out (i : Int) (by omega) (by omega)
    rw [Int.toNat_natCast] at q0 q1
    have HP := Aside0.mk (beq_cast (pastF isBlank l i) l.length)
    have HO2 := Aside0.mk (Kd.R_putn HO.out (i : Int) (decide (pastF isBlank l i = l.length)))
    have HB2 := Aside0.mk (below_set (j := i) (v := .bool (decide (pastF isBlank l i = l.length))) HB.out HG.out)
    go_wp2_with (first
     | (go_at_call 38; (refine (past_blank A c i l _ HC2.out HIL.out HML.out).mono ?_); rintro e w1 ⟨rfl, rfl⟩))
    rw [HP.out]
    go_roundg k1
    case measure => omega
    case rel =>
     rw [Int.toNat_natCast] at HO2
     refine ⟨i + 1, zs.set i (decide (pastF isBlank l i = l.length)), by rw [HW.out], ⟨by have := HI.out; omega⟩, ⟨by rw [List.length_set]; exact HZ.out.1, fun j hj => ?_⟩, HO2, HB2⟩
     by_cases hji : j = i
     ·subst hji
      rw [List.getElem?_set_self (by have := HZ.out.1; omega), endsF_at l j hi]
     ·rw [List.getElem?_set_ne (fun e => hji e.symm)]
      exact HZ.out.2 j (by omega)
  ·have hi1 : i = l.length + 1 := by have := HI.out; omega
   have hi0 : ¬ (i : Int) < (l.length : Int) + 1 := by omega
   have hi2 : ¬ (i : Int) < ((l.length + 1 : Nat) : Int) := by omega
   have HZ2 := Aside0.mk (show zs = endsF l by
    apply List.ext_getElem?
    intro j
    rcases Nat.lt_or_ge j (l.length + 1) with h | h
    ·exact HZ.out.2 j (by omega)
    ·rw [List.getElem?_eq_none (by have := HZ.out.1; omega), List.getElem?_eq_none (by rw [endsF_len]; omega)])
   clear hi1
   go_wp2
   go_ret
   exact ⟨_, rfl, by have h := HO.out; rw [HZ2.out] at h; exact h, HB.out⟩
def lex_Ends.f (l0 : List Int) : Option (List Bool) := if l0.length ≤ 1000000000000 then some (endsF l0) else none
theorem lex_Ends.calls (A0 : Option Addr) (c0 : Nat) (l0 : List Int) (r : List Bool) (w : World) (hr0 : Kd.C (Kd.int .i64) w A0 l0.length l0) (hc0 : l0.length ≤ c0) (h : lex_Ends.f l0 = some r) :
  Calls Try.prog 22 #[.slice A0 l0.length c0] w fun e w' => ∃ v0_ : Value, e = .returned (v0_) ∧ Kd.R Kd.bool 4 w' w.heap.size (fun _ => True) v0_ r ∧ Below w.heap.size w w' := by
 unfold lex_Ends.f at h
 split at h
 ·rename_i hm
  obtain rfl := Option.some.inj h
  exact ends_walk A0 c0 l0 w hr0 hm
 ·cases h
def fold_row_of.f (a0_0 : Int) (a0_1 : Int) (a0_2 : Int) (a0_3 : Int) (a1 : Int) : Option (Int × Bool) := if a1 < a0_0 then (some (a1, false)) else (if a1 > a0_1 then (some (a1, false)) else (some (wrap64 (a0_2 + (wrap64 ((wrap64 (a1 - a0_0)) * a0_3))), true)))
set_option maxHeartbeats 8000000 in
set_option maxRecDepth 100000 in
theorem fold_row_of.calls (a0_0 : Int) (a0_1 : Int) (a0_2 : Int) (a0_3 : Int) (a1 : Int) (r1 : Int) (r2 : Bool) (w : World) (h : fold_row_of.f a0_0 a0_1 a0_2 a0_3 a1 = some (r1, r2)) :
  Calls Try.prog 74 #[.agg #[.int .i64 a0_0, .int .i64 a0_1, .int .i64 a0_2, .int .i64 a0_3], .int .i64 a1] w fun e w' => e = .returned (.tuple #[.int .i64 r1, .bool r2]) ∧ Below w.heap.size w w' := by
 have hu114 := Try.underlying114
 have HB := Aside0.mk (Below.refl w.heap.size w)
 have H : (if a1 < a0_0 then (some (a1, false)) else (if a1 > a0_1 then (some (a1, false)) else (some (wrap64 (a0_2 + (wrap64 ((wrap64 (a1 - a0_0)) * a0_3))), true)))) = some (r1, r2) := h
 clear h
 by_cases c3 : a1 < a0_0
 ·rw [if_pos c3] at H
  have c3b0 : decide (a1 < a0_0) = true := decide_eq_true c3
  clear c3
  simp only [Option.some.injEq, Prod.mk.injEq] at H
  obtain ⟨rfl, rfl⟩ := H
  go_enter Try.func74, Try.ntmps74
  go_wp2_with (first | ((with_reducible refine gate_dst (N := 2) rfl ?_); refine box_event ?hg (N := 2) ?hd (cs := #[.int .i64 a0_0, .int .i64 a0_1, .int .i64 a0_2, .int .i64 a0_3]) (t := 114) ?hr ?_; (case hd => rfl); (case hg => rfl); (case hr => first | (go_simp; done) | (go_simp; rfl)); intro gb132 hg w4 hbox hb; have n0_ := Aside0.mk (below_step (by exact wU HB.out) hb); have n1_ := Aside0.mk (hbox); have n2_ := Aside0.mk ((by rw [hg]; exact (below_size (by exact wU HB.out)) : w.heap.size ≤ gb132)); have n3_ := Aside0.mk ((by rw [hg]; exact (below_size (by exact wU HB.out)) : w.heap.size ≤ gb132)); clear HB; have HB := n0_; have BK132 := n1_; have GW132 := n2_; have GE132 := n3_; clear n0_ n1_ n2_ n3_; clear hb hbox hg; have hcz5_0 : w4.cell? ⟨gb132, 0, none⟩ = some (.int .i64 a0_0) := (blk_cell BK132.out 0).trans rfl; have hcz5_1 : w4.cell? ⟨gb132, 1, none⟩ = some (.int .i64 a0_1) := (blk_cell BK132.out 1).trans rfl; have hcz5_2 : w4.cell? ⟨gb132, 2, none⟩ = some (.int .i64 a0_2) := (blk_cell BK132.out 2).trans rfl; have hcz5_3 : w4.cell? ⟨gb132, 3, none⟩ = some (.int .i64 a0_3) := (blk_cell BK132.out 3).trans rfl; have hfz5_0 := blk_frozen BK132.out 0; have hfz5_1 := blk_frozen BK132.out 1; have hfz5_2 := blk_frozen BK132.out 2; have hfz5_3 := blk_frozen BK132.out 3))
  go_ret2
  exact ⟨by first | rfl | (simp [errW_none, errW_some] <;> rfl) | (simp [*, errW_none, errW_some] <;> rfl), by exact wS HB.out GE132.out⟩
 ·rw [if_neg c3] at H
  have c3b0 : decide (a1 < a0_0) = false := decide_eq_false c3
  clear c3
  by_cases c6 : a1 > a0_1
  ·rw [if_pos c6] at H
   have c6b0 : decide (a0_1 < a1) = true := decide_eq_true c6
   clear c6
   simp only [Option.some.injEq, Prod.mk.injEq] at H
   obtain ⟨rfl, rfl⟩ := H
   go_enter Try.func74, Try.ntmps74
   go_wp2_with (first | ((with_reducible refine gate_dst (N := 2) rfl ?_); refine box_event ?hg (N := 2) ?hd (cs := #[.int .i64 a0_0, .int .i64 a0_1, .int .i64 a0_2, .int .i64 a0_3]) (t := 114) ?hr ?_; (case hd => rfl); (case hg => rfl); (case hr => first | (go_simp; done) | (go_simp; rfl)); intro gb132 hg w7 hbox hb; have n0_ := Aside0.mk (below_step (by exact wU HB.out) hb); have n1_ := Aside0.mk (hbox); have n2_ := Aside0.mk ((by rw [hg]; exact (below_size (by exact wU HB.out)) : w.heap.size ≤ gb132)); have n3_ := Aside0.mk ((by rw [hg]; exact (below_size (by exact wU HB.out)) : w.heap.size ≤ gb132)); clear HB; have HB := n0_; have BK132 := n1_; have GW132 := n2_; have GE132 := n3_; clear n0_ n1_ n2_ n3_; clear hb hbox hg; have hcz8_0 : w7.cell? ⟨gb132, 0, none⟩ = some (.int .i64 a0_0) := (blk_cell BK132.out 0).trans rfl; have hcz8_1 : w7.cell? ⟨gb132, 1, none⟩ = some (.int .i64 a0_1) := (blk_cell BK132.out 1).trans rfl; have hcz8_2 : w7.cell? ⟨gb132, 2, none⟩ = some (.int .i64 a0_2) := (blk_cell BK132.out 2).trans rfl; have hcz8_3 : w7.cell? ⟨gb132, 3, none⟩ = some (.int .i64 a0_3) := (blk_cell BK132.out 3).trans rfl; have hfz8_0 := blk_frozen BK132.out 0; have hfz8_1 := blk_frozen BK132.out 1; have hfz8_2 := blk_frozen BK132.out 2; have hfz8_3 := blk_frozen BK132.out 3))
   go_ret2
   exact ⟨by first | rfl | (simp [errW_none, errW_some] <;> rfl) | (simp [*, errW_none, errW_some] <;> rfl), by exact wS HB.out GE132.out⟩
  ·rw [if_neg c6] at H
   have c6b0 : decide (a0_1 < a1) = false := decide_eq_false c6
   clear c6
   simp only [Option.some.injEq, Prod.mk.injEq] at H
   obtain ⟨rfl, rfl⟩ := H
   go_enter Try.func74, Try.ntmps74
   go_wp2_with (first | ((with_reducible refine gate_dst (N := 2) rfl ?_); refine box_event ?hg (N := 2) ?hd (cs := #[.int .i64 a0_0, .int .i64 a0_1, .int .i64 a0_2, .int .i64 a0_3]) (t := 114) ?hr ?_; (case hd => rfl); (case hg => rfl); (case hr => first | (go_simp; done) | (go_simp; rfl)); intro gb132 hg w9 hbox hb; have n0_ := Aside0.mk (below_step (by exact wU HB.out) hb); have n1_ := Aside0.mk (hbox); have n2_ := Aside0.mk ((by rw [hg]; exact (below_size (by exact wU HB.out)) : w.heap.size ≤ gb132)); have n3_ := Aside0.mk ((by rw [hg]; exact (below_size (by exact wU HB.out)) : w.heap.size ≤ gb132)); clear HB; have HB := n0_; have BK132 := n1_; have GW132 := n2_; have GE132 := n3_; clear n0_ n1_ n2_ n3_; clear hb hbox hg; have hcz10_0 : w9.cell? ⟨gb132, 0, none⟩ = some (.int .i64 a0_0) := (blk_cell BK132.out 0).trans rfl; have hcz10_1 : w9.cell? ⟨gb132, 1, none⟩ = some (.int .i64 a0_1) := (blk_cell BK132.out 1).trans rfl; have hcz10_2 : w9.cell? ⟨gb132, 2, none⟩ = some (.int .i64 a0_2) := (blk_cell BK132.out 2).trans rfl; have hcz10_3 : w9.cell? ⟨gb132, 3, none⟩ = some (.int .i64 a0_3) := (blk_cell BK132.out 3).trans rfl; have hfz10_0 := blk_frozen BK132.out 0; have hfz10_1 := blk_frozen BK132.out 1; have hfz10_2 := blk_frozen BK132.out 2; have hfz10_3 := blk_frozen BK132.out 3))
   go_ret2
   exact ⟨by first | rfl | (simp [errW_none, errW_some] <;> rfl) | (simp [*, errW_none, errW_some] <;> rfl), by exact wS HB.out GE132.out⟩
end Go.Proofs.Ytgbnfjhmobeloaa.G
