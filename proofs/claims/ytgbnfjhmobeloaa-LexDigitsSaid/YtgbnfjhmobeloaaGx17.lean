-- printed by wip/tool/gprint.py, a program of this work, out of the translation; Lean checks it
import Derived.Test.YtgbnfjhmobeloaaGx0
import Derived.Test.YtgbnfjhmobeloaaGx13
import Derived.Test.YtgbnfjhmobeloaaGx14
namespace Go.Proofs.Ytgbnfjhmobeloaa.G
open Go.RowKit Go.Proofs.YtgbnfjhmobeloaaW.PrintWords Go.Proofs.YtgbnfjhmobeloaaW.PrintLast Go.Proofs.YtgbnfjhmobeloaaW.PrintMore Go.Proofs.YtgbnfjhmobeloaaW.VWords
attribute [local go_sem] max2_int min2_int max_two min_two max_three min_three max_four min_four   -- for this text's walks alone
set_option linter.unusedVariables false
set_option linter.unusedSimpArgs false

/-! ### interlocutorlaw6_LexDigits: function 6 -/
mutual
def interlocutorlaw6_LexDigits.l0 : Nat → Int → Int → List Int → Int → Int → Option (Bool)
  | 0, _, _, _, _, _ => none
  | k + 1, x1, x5, x6, x7, x8 => if x8 < x5 then ((interlocutorlaw6_within.f (wrap64 (x1 + (wrap64 (x8 * 7)))) 10).bind fun t230 => (if x6.length < 17592186044416 then ((some (x6 ++ [wrap64 (48 + t230)] : List Int)).bind fun y231 => (if x8 ≥ (wrap64 (x5 - 18)) then (interlocutorlaw6_LexDigits.l0 k x1 x5 y231 (wrap64 ((wrap64 (10 * x7)) + t230)) (wrap64 (x8 + 1))) else (interlocutorlaw6_LexDigits.l0 k x1 x5 y231 x7 (wrap64 (x8 + 1))))) else (none))) else ((lex_Tokens.f (⟨#[]⟩ : ByteArray) 0 0 ([] : List (S53)) ([] : List (S108)) ([] : List (S138)) x6).bind fun t234 => (if (t234.length : Int) = (mn x5 18) then (interlocutorlaw6_LexDigits.l1 k x5 x7 t234 (mn x5 18) 0) else (some false)))
def interlocutorlaw6_LexDigits.l1 : Nat → Int → Int → List (S47) → Int → Int → Option (Bool)
  | 0, _, _, _, _, _ => none
  | k + 1, x5, x7, x10, x11, x12 => if x12 < x11 then (if 0 ≤ x12 then (if x12 < (x10.length : Int) then (if ((rd_T47 x10 x12).f0) = (wrap64 ((wrap64 (x5 - x11)) + x12)) then (if ((rd_T47 x10 x12).f1) = x5 then (if ((rd_T47 x10 x12).f4) = (wrap64 (x11 - x12)) then (if ((rd_T47 x10 x12).f2) = 0 then (interlocutorlaw6_LexDigits.l1 k x5 x7 x10 x11 (wrap64 (x12 + 1))) else (some false)) else (some false)) else (some false)) else (some false)) else (none)) else (none)) else (if x11 = 0 then (some true) else (if 0 < (x10.length : Int) then (some (((rd_T47 x10 0).f3) == x7)) else (none)))
end
def interlocutorlaw6_LexDigits.f (k : Nat) (a0 : Int) (a1 : Int) : Option (Bool) := (interlocutorlaw6_known.f k).bind fun t228 => (if t228 = true then ((interlocutorlaw6_within.f a0 25).bind fun t229 => (interlocutorlaw6_LexDigits.l0 k a1 t229 ([] : List Int) 0 0)) else (some false))
theorem interlocutorlaw6_LexDigits.mono_l : ∀ k, (∀ y0 y1 y2 y3 y4, LeO (interlocutorlaw6_LexDigits.l0 k y0 y1 y2 y3 y4) (interlocutorlaw6_LexDigits.l0 (k + 1) y0 y1 y2 y3 y4)) ∧ (∀ y0 y1 y2 y3 y4, LeO (interlocutorlaw6_LexDigits.l1 k y0 y1 y2 y3 y4) (interlocutorlaw6_LexDigits.l1 (k + 1) y0 y1 y2 y3 y4))
  | 0 => ⟨fun _ _ _ _ _ r h => by simp [interlocutorlaw6_LexDigits.l0] at h, fun _ _ _ _ _ r h => by simp [interlocutorlaw6_LexDigits.l1] at h⟩
  | k + 1 => by
    obtain ⟨ih0, ih1⟩ := interlocutorlaw6_LexDigits.mono_l k
    refine ⟨?_, ?_⟩
    · intro y0 y1 y2 y3 y4
      unfold interlocutorlaw6_LexDigits.l0
      repeat' first
      | (with_reducible exact ih0 _ _ _ _ _)
      | (with_reducible exact ih1 _ _ _ _ _)
      | (with_reducible exact interlocutorlaw6_known.mono _)
      | (with_reducible exact LeO.refl _)
      | (with_reducible exact LeO.none _)
      | (with_reducible refine LeO.ite ?_ ?_)
      | (with_reducible refine LeO.bind ?_ (fun _ => ?_))
      | exact ih0 _ _ _ _ _
      | exact ih1 _ _ _ _ _
      | exact interlocutorlaw6_known.mono _
      | exact LeO.none _
      | refine LeO.ite ?_ ?_
      | refine LeO.bind ?_ (fun _ => ?_)
    · intro y0 y1 y2 y3 y4
      unfold interlocutorlaw6_LexDigits.l1
      repeat' first
      | (with_reducible exact ih0 _ _ _ _ _)
      | (with_reducible exact ih1 _ _ _ _ _)
      | (with_reducible exact interlocutorlaw6_known.mono _)
      | (with_reducible exact LeO.refl _)
      | (with_reducible exact LeO.none _)
      | (with_reducible refine LeO.ite ?_ ?_)
      | (with_reducible refine LeO.bind ?_ (fun _ => ?_))
      | exact ih0 _ _ _ _ _
      | exact ih1 _ _ _ _ _
      | exact interlocutorlaw6_known.mono _
      | exact LeO.none _
      | refine LeO.ite ?_ ?_
      | refine LeO.bind ?_ (fun _ => ?_)
theorem interlocutorlaw6_LexDigits.mono : ∀ a0 a1 k, LeO (interlocutorlaw6_LexDigits.f k a0 a1) (interlocutorlaw6_LexDigits.f (k + 1) a0 a1) := by
  intro a0 a1 k
  obtain ⟨ih0, ih1⟩ := interlocutorlaw6_LexDigits.mono_l k
  unfold interlocutorlaw6_LexDigits.f
  repeat' first
      | (with_reducible exact ih0 _ _ _ _ _)
      | (with_reducible exact ih1 _ _ _ _ _)
      | (with_reducible exact interlocutorlaw6_known.mono _)
      | (with_reducible exact LeO.refl _)
      | (with_reducible exact LeO.none _)
      | (with_reducible refine LeO.ite ?_ ?_)
      | (with_reducible refine LeO.bind ?_ (fun _ => ?_))
      | exact ih0 _ _ _ _ _
      | exact ih1 _ _ _ _ _
      | exact interlocutorlaw6_known.mono _
      | exact LeO.none _
      | refine LeO.ite ?_ ?_
      | refine LeO.bind ?_ (fun _ => ?_)
set_option maxHeartbeats 8000000 in
set_option maxRecDepth 100000 in
theorem interlocutorlaw6_LexDigits.calls (k : Nat) (a0 : Int) (a1 : Int) (r : Bool) (w : World) (h : interlocutorlaw6_LexDigits.f k a0 a1 = some r) :
    Calls Try.prog 6 #[.int .i64 a0, .int .i64 a1] w fun e w' => e = .returned (.bool r) ∧ Below w.heap.size w w' := by
  have hu32 := Try.underlying32
  have HB := Aside0.mk (Below.refl w.heap.size w)
  have H : ((interlocutorlaw6_known.f k).bind fun t228 => (if t228 = true then ((interlocutorlaw6_within.f a0 25).bind fun t229 => (interlocutorlaw6_LexDigits.l0 k a1 t229 ([] : List Int) 0 0)) else (some false))) = some r := h
  clear h
  replace H := Option.bind_eq_some_iff.mp H
  obtain ⟨t228, A30, H⟩ := H
  replace H : (if t228 = true then ((interlocutorlaw6_within.f a0 25).bind fun t229 => (interlocutorlaw6_LexDigits.l0 k a1 t229 ([] : List Int) 0 0)) else (some false)) = some r := H
  have A3 := Aside0.mk A30
  clear A30
  by_cases c4 : t228 = true
  · subst c4
    have H1 : ((interlocutorlaw6_within.f a0 25).bind fun t229 => (interlocutorlaw6_LexDigits.l0 k a1 t229 ([] : List Int) 0 0)) = some r := by rw [if_pos rfl] at H; exact H
    clear H
    have H := H1
    clear H1
    replace H := Option.bind_eq_some_iff.mp H
    obtain ⟨t229, A50, H⟩ := H
    replace H : (interlocutorlaw6_LexDigits.l0 k a1 t229 ([] : List Int) 0 0) = some r := H
    have A5 := Aside0.mk A50
    clear A50
    have H' := Aside0.mk H
    clear H
    go_enter Try.func6, Try.ntmps6
    go_wp2_with (first | ((with_reducible refine gate_callee (f := 14) rfl ?_); refine goesL_ (some 13) rfl rfl Try.func14 (by kernel_rfl) rfl #[] rfl (by (try simp only [List.map_toArray, List.map_cons, List.map_nil]); first | done | rfl | (simp only [List.length_drop, List.length_take]; rfl)) ?_; (with_reducible refine (interlocutorlaw6_known.calls k  true _ A3.out).mono ?_); rintro e w6 ⟨rfl, hb⟩; refine ⟨_, rfl, ?_⟩; have n0_ := Aside0.mk (below_step (by repeat (first | (with_reducible first | exact HB.out | apply below_alloc | apply pw_below_drewN | apply below_drew1) | exact HB.out)) hb); clear HB; have HB := n0_; clear n0_; (try clear hb); (try clear hb2); (try clear hk); (try clear hi)) | ((with_reducible refine gate_callee (f := 27) rfl ?_); refine goesL_ (some 16) rfl rfl Try.func27 (by kernel_rfl) rfl #[.int .i64 a0, .int .i64 25] rfl (by (try simp only [List.map_toArray, List.map_cons, List.map_nil]); first | done | rfl | (simp only [List.length_drop, List.length_take]; rfl)) ?_; (with_reducible refine (interlocutorlaw6_within.calls a0 25 t229 _ A5.out).mono ?_); rintro e w' ⟨rfl, ⟨nd, rfl⟩⟩; refine ⟨_, rfl, ?_⟩))
    go_loopg [6, 7, 8] k (fun kq v6 v7 v8 w' => ∃ (x6_1 : List Int) (x7_1 : Int) (x8_1 : Int), v7 = .int .i64 x7_1 ∧ v8 = .int .i64 x8_1 ∧ Aside0 (interlocutorlaw6_LexDigits.l0 kq a1 t229 x6_1 x7_1 x8_1 = some r) ∧ Aside0 (kq ≤ k) ∧ Aside0 (Kd.R (Kd.int .i64) 3 w' w.heap.size (fun _ => True) v6 x6_1) ∧ Aside0 (Below w.heap.size w w'))
    case atStart => exact ⟨(([] : List Int)), (0), (0), (by first | rfl | (simp; done) | (simp [*]; done)), (by first | rfl | (simp; done) | (simp [*]; done)), H', ⟨Nat.le_refl _⟩, ⟨by first | exact Kd.R_nil _ _ _ _ _ | exact Kd.N_nil _ _ _ _ _ | exact Kd.V_nil _ _ _ _ _ | exact Kd.Q_nil _ _ _ _ _ | exact Kd.S_nil _ _ _ _ _⟩, ⟨by repeat (first | (with_reducible first | exact HB.out | apply below_alloc | apply pw_below_drewN | apply below_drew1) | exact HB.out)⟩⟩
    case round =>
      clear H'
      try clear c1
      try clear c2
      try clear p2
      try clear c4
      try clear c6
      obtain ⟨x6_1, x7_1, x8_1, rfl, rfl, HA, HK1, HO_6, HB⟩ := hrel
      cases gk with
      | zero => exact absurd HA.out (by simp [interlocutorlaw6_LexDigits.l0])
      | succ k1 =>
        have H := HA.out
        clear HA
        simp only [interlocutorlaw6_LexDigits.l0] at H
        by_cases c7 : x8_1 < t229
        · rw [if_pos c7] at H
          have c7b0 : decide (x8_1 < t229) = true := decide_eq_true c7
          clear c7
          replace H := Option.bind_eq_some_iff.mp H
          obtain ⟨t230, A80, H⟩ := H
          replace H : (if x6_1.length < 17592186044416 then ((some (x6_1 ++ [wrap64 (48 + t230)] : List Int)).bind fun y231 => (if x8_1 ≥ (wrap64 (t229 - 18)) then (interlocutorlaw6_LexDigits.l0 k1 a1 t229 y231 (wrap64 ((wrap64 (10 * x7_1)) + t230)) (wrap64 (x8_1 + 1))) else (interlocutorlaw6_LexDigits.l0 k1 a1 t229 y231 x7_1 (wrap64 (x8_1 + 1))))) else (none)) = some r := H
          have A8 := Aside0.mk A80
          clear A80
          by_cases c9 : x6_1.length < 17592186044416
          · rw [if_pos c9] at H
            have LMc9 := Aside0.mk c9
            clear c9
            obtain ⟨y231, hy231⟩ : ∃ y_ : List Int, y_ = (x6_1 ++ [wrap64 (48 + t230)]) := ⟨_, rfl⟩
            replace H : (if x8_1 ≥ (wrap64 (t229 - 18)) then (interlocutorlaw6_LexDigits.l0 k1 a1 t229 y231 (wrap64 ((wrap64 (10 * x7_1)) + t230)) (wrap64 (x8_1 + 1))) else (interlocutorlaw6_LexDigits.l0 k1 a1 t229 y231 x7_1 (wrap64 (x8_1 + 1)))) = some r := by first | (rw [hy231]; with_reducible exact H) | (have H2_ := (Option.bind_some _ _).symm.trans H; rw [hy231]; with_reducible exact H2_) | (have H2_ := (Option.bind_some _ _).symm.trans H; with_reducible exact H2_) | with_reducible exact H | (rw [hy231]; exact H) | exact H
            have Ny231 := Aside0.mk hy231
            clear hy231
            by_cases c10 : x8_1 ≥ (wrap64 (t229 - 18))
            · rw [if_pos c10] at H
              have c10b0 : decide ((wrap64 (t229 - 18)) ≤ x8_1) = true := decide_eq_true c10
              clear c10
              have H' := Aside0.mk H
              clear H
              go_wp2_with (first | ((with_reducible refine gate_callee (f := 27) rfl ?_); refine goesL_ (some 26) rfl rfl Try.func27 (by kernel_rfl) rfl #[.int .i64 (wrap64 (a1 + (wrap64 (x8_1 * 7)))), .int .i64 10] rfl (by (try simp only [List.map_toArray, List.map_cons, List.map_nil]); first | done | rfl | (simp only [List.length_drop, List.length_take]; rfl)) ?_; (with_reducible refine (interlocutorlaw6_within.calls (wrap64 (a1 + (wrap64 (x8_1 * 7)))) 10 t230 _ A8.out).mono ?_); rintro e w' ⟨rfl, ⟨nd, rfl⟩⟩; refine ⟨_, rfl, ?_⟩) | ((with_reducible refine gate_builtin (b := .append) (xs := #[.tmp 27, .tmp 30]) rfl ?_); at_builtin; refine Kd.R_append (Kd.int .i64) (w0 := w) w.heap.size rfl (.tmp 27) (.tmp 30) 25 3 (.int .i64 0) 8 rfl Try.underlying25 info3 rfl (by decide) (by omega) u6 x6_1 (wrap64 (48 + t230)) [.int .i64 (wrap64 (48 + t230))] (fun _ => True) (fun _ => False) rfl rfl ?aP (fun _ hk => hk.elim) ?aF ?aO ?aB ?aS ?aL ?_; (case aP => exact rfl); (case aB => exact (by repeat (first | (with_reducible first | exact HB.out | apply below_alloc | apply pw_below_drewN | apply below_drew1) | exact HB.out))); (case aF => exact (fun _ _ => trivial)); (case aO => exact (by (with_reducible repeat (first | apply Kd.R_alloc | apply Kd.R_drewN | apply Kd.R_drew)); exact HO_6.out)); (case aS => exact (below_size (by repeat (first | (with_reducible first | exact HB.out | apply below_alloc | apply pw_below_drewN | apply below_drew1) | exact HB.out)))); (case aL => have := LMc9.out; omega); intro v232 w11 ho hb hg hat; rw [← Ny231.out] at ho; have n0_ := Aside0.mk (hb); have n1_ := Aside0.mk (ho); clear HB; clear HO_6; have HB := n0_; have HO233 := n1_; clear n0_ n1_; clear ho hb hg hat))
              go_roundg k1
              case measure => have := HK1.out; omega
              case rel => exact ⟨(y231), (wrap64 ((wrap64 (10 * x7_1)) + t230)), (wrap64 (x8_1 + 1)), (by first | rfl | (simp; done) | (simp [*]; done)), (by first | rfl | (simp; done) | (simp [*]; done)), H', ⟨by have := HK1.out; omega⟩, ⟨by (with_reducible repeat (first | apply Kd.R_alloc | apply Kd.R_drewN | apply Kd.R_drew)); exact HO233.out⟩, ⟨by repeat (first | (with_reducible first | exact HB.out | apply below_alloc | apply pw_below_drewN | apply below_drew1) | exact HB.out)⟩⟩
            · rw [if_neg c10] at H
              have c10b0 : decide ((wrap64 (t229 - 18)) ≤ x8_1) = false := decide_eq_false c10
              clear c10
              have H' := Aside0.mk H
              clear H
              go_wp2_with (first | ((with_reducible refine gate_callee (f := 27) rfl ?_); refine goesL_ (some 26) rfl rfl Try.func27 (by kernel_rfl) rfl #[.int .i64 (wrap64 (a1 + (wrap64 (x8_1 * 7)))), .int .i64 10] rfl (by (try simp only [List.map_toArray, List.map_cons, List.map_nil]); first | done | rfl | (simp only [List.length_drop, List.length_take]; rfl)) ?_; (with_reducible refine (interlocutorlaw6_within.calls (wrap64 (a1 + (wrap64 (x8_1 * 7)))) 10 t230 _ A8.out).mono ?_); rintro e w' ⟨rfl, ⟨nd, rfl⟩⟩; refine ⟨_, rfl, ?_⟩) | ((with_reducible refine gate_builtin (b := .append) (xs := #[.tmp 27, .tmp 30]) rfl ?_); at_builtin; refine Kd.R_append (Kd.int .i64) (w0 := w) w.heap.size rfl (.tmp 27) (.tmp 30) 25 3 (.int .i64 0) 8 rfl Try.underlying25 info3 rfl (by decide) (by omega) u6 x6_1 (wrap64 (48 + t230)) [.int .i64 (wrap64 (48 + t230))] (fun _ => True) (fun _ => False) rfl rfl ?aP (fun _ hk => hk.elim) ?aF ?aO ?aB ?aS ?aL ?_; (case aP => exact rfl); (case aB => exact (by repeat (first | (with_reducible first | exact HB.out | apply below_alloc | apply pw_below_drewN | apply below_drew1) | exact HB.out))); (case aF => exact (fun _ _ => trivial)); (case aO => exact (by (with_reducible repeat (first | apply Kd.R_alloc | apply Kd.R_drewN | apply Kd.R_drew)); exact HO_6.out)); (case aS => exact (below_size (by repeat (first | (with_reducible first | exact HB.out | apply below_alloc | apply pw_below_drewN | apply below_drew1) | exact HB.out)))); (case aL => have := LMc9.out; omega); intro v232 w12 ho hb hg hat; rw [← Ny231.out] at ho; have n0_ := Aside0.mk (hb); have n1_ := Aside0.mk (ho); clear HB; clear HO_6; have HB := n0_; have HO233 := n1_; clear n0_ n1_; clear ho hb hg hat))
              go_roundg k1
              case measure => have := HK1.out; omega
              case rel => exact ⟨(y231), (x7_1), (wrap64 (x8_1 + 1)), (by first | rfl | (simp; done) | (simp [*]; done)), (by first | rfl | (simp; done) | (simp [*]; done)), H', ⟨by have := HK1.out; omega⟩, ⟨by (with_reducible repeat (first | apply Kd.R_alloc | apply Kd.R_drewN | apply Kd.R_drew)); exact HO233.out⟩, ⟨by repeat (first | (with_reducible first | exact HB.out | apply below_alloc | apply pw_below_drewN | apply below_drew1) | exact HB.out)⟩⟩
          · rw [if_neg c9] at H
            exact absurd H (by simp)
        · rw [if_neg c7] at H
          have c7b0 : decide (x8_1 < t229) = false := decide_eq_false c7
          clear c7
          replace H := Option.bind_eq_some_iff.mp H
          obtain ⟨t234, A130, H⟩ := H
          replace H : (if (t234.length : Int) = (mn t229 18) then (interlocutorlaw6_LexDigits.l1 k1 t229 x7_1 t234 (mn t229 18) 0) else (some false)) = some r := H
          have A13 := Aside0.mk A130
          clear A130
          obtain ⟨ji14, hji14⟩ : ∃ j_ : Int, (mn t229 18) = j_ := ⟨_, rfl⟩
          replace H : (if (t234.length : Int) = (ji14) then (interlocutorlaw6_LexDigits.l1 k1 t229 x7_1 t234 ji14 0) else (some false)) = some r := by first | (rw [hji14] at H; exact H) | (simp only [hji14] at H ⊢; exact H)
          (try rw [hji14] at A13)
          have hji14_ : (if 18 < t229 then 18 else t229) = ji14 := hji14
          by_cases c15 : (t234.length : Int) = (ji14)
          · rw [if_pos c15] at H
            have c15b0 : ((t234.length : Int) == (ji14)) = true := beq_iff_eq.mpr c15
            have c15b1 : ((t234.length : Int) != (ji14)) = false := bne_eq_false_iff_eq.mpr c15
            clear c15
            have H' := Aside0.mk H
            clear H
            obtain ⟨Ao16, co16, eo16⟩ := Kd.R_slice HO_6.out
            subst eo16
            go_wp2_with (first | ((with_reducible refine gate_callee (f := 20) rfl ?_); refine goesL_ (some 42) rfl rfl Try.func20 (by kernel_rfl) rfl #[.agg #[.string (⟨#[]⟩ : ByteArray), .int .i64 0, .int .i64 0, .slice none 0 0, .slice none 0 0, .slice none 0 0], .slice Ao16 x6_1.length co16] rfl (by (try simp only [List.map_toArray, List.map_cons, List.map_nil]); first | done | rfl | (simp only [List.length_drop, List.length_take]; rfl)) ?_; (refine (lex_Tokens.calls (⟨#[]⟩ : ByteArray) 0 0 _ _ ([] : List (S53)) _ _ ([] : List (S108)) _ _ ([] : List (S138)) _ _ x6_1 t234 _ ?side1 ?side2 ?side3 ?side4 ?side5 ?side6 ?side7 ?side8 A13.out).mono ?_); (case side1 => exact Kd.C_nil _ _); (case side2 => exact Nat.le_refl _); (case side3 => exact Kd.C_nil _ _); (case side4 => exact Nat.le_refl _); (case side5 => exact Kd.C_nil _ _); (case side6 => exact Nat.le_refl _); (case side7 => repeat (first | exact (Kd.R_reads' HO_6.out).2.2 | (with_reducible refine Kd.C_alloc ?_ _) | (with_reducible refine Kd.C_drewN ?_ _) | (with_reducible refine Kd.C_drew ?_))); (case side8 => exact (Kd.R_reads' HO_6.out).2.1); rintro e w17 ⟨v235, rfl, ho0, hb⟩; refine ⟨_, rfl, ?_⟩; have n0_ := Aside0.mk (Kd.R_below (by (with_reducible repeat (first | apply Kd.R_alloc | apply Kd.R_drewN | apply Kd.R_drew)); exact HO_6.out) hb); have n1_ := Aside0.mk (Kd.R_lower ho0 (below_size (by repeat (first | (with_reducible first | exact HB.out | apply below_alloc | apply pw_below_drewN | apply below_drew1) | exact HB.out)))); have n2_ := Aside0.mk (below_step (by repeat (first | (with_reducible first | exact HB.out | apply below_alloc | apply pw_below_drewN | apply below_drew1) | exact HB.out)) hb); clear HO_6; clear HB; have HO_6 := n0_; have HO236 := n1_; have HB := n2_; clear n0_ n1_ n2_; (try clear hb); (try clear hb2); (try clear hk); (try clear hi); (try clear ho0); obtain ⟨Ao18, co18, eo18⟩ := Kd.R_slice HO236.out; subst eo18))
            go_loopg [12] k1 (fun kq v12 w' => ∃ (x12_2 : Int), v12 = .int .i64 x12_2 ∧ Aside0 (interlocutorlaw6_LexDigits.l1 kq t229 x7_1 t234 ji14 x12_2 = some r) ∧ Aside0 (kq ≤ k1) ∧ Aside0 (Kd.R k47 47 w' w.heap.size (fun _ => True) (.slice Ao18 t234.length co18) t234) ∧ Aside0 (Below w.heap.size w w'))
            case atStart => exact ⟨(0), (by first | rfl | (simp; done) | (simp [*]; done)), H', ⟨Nat.le_refl _⟩, ⟨by (with_reducible repeat (first | apply Kd.R_alloc | apply Kd.R_drewN | apply Kd.R_drew)); exact HO236.out⟩, ⟨by repeat (first | (with_reducible first | exact HB.out | apply below_alloc | apply pw_below_drewN | apply below_drew1) | exact HB.out)⟩⟩
            case round =>
              clear H'
              try clear c1
              try clear c2
              try clear p2
              try clear c4
              try clear c6
              try clear p6
              try clear c7
              try clear c7b0
              try clear c9
              try clear c10
              try clear c10b0
              try clear c14
              try clear c15
              try clear c15b0
              try clear c15b1
              try clear p2
              obtain ⟨x12_2, rfl, HA, HK2, HO_10, HB⟩ := hrel
              cases gk with
              | zero => exact absurd HA.out (by simp [interlocutorlaw6_LexDigits.l1])
              | succ k2 =>
                have H := HA.out
                clear HA
                simp only [interlocutorlaw6_LexDigits.l1] at H
                by_cases c19 : x12_2 < ji14
                · rw [if_pos c19] at H
                  have c19b0 : decide (x12_2 < ji14) = true := decide_eq_true c19
                  clear c19
                  by_cases c20 : 0 ≤ x12_2
                  · rw [if_pos c20] at H
                    have c20b0 : decide (0 ≤ x12_2) = true := decide_eq_true c20
                    clear c20
                    by_cases c21 : x12_2 < (t234.length : Int)
                    · rw [if_pos c21] at H
                      have c21b0 : decide (x12_2 < (t234.length : Int)) = true := decide_eq_true c21
                      clear c21
                      by_cases c22 : ((rd_T47 t234 x12_2).f0) = (wrap64 ((wrap64 (t229 - ji14)) + x12_2))
                      · rw [if_pos c22] at H
                        have c22b0 : (((rd_T47 t234 x12_2).f0) == (wrap64 ((wrap64 (t229 - ji14)) + x12_2))) = true := beq_iff_eq.mpr c22
                        have c22b1 : (((rd_T47 t234 x12_2).f0) != (wrap64 ((wrap64 (t229 - ji14)) + x12_2))) = false := bne_eq_false_iff_eq.mpr c22
                        clear c22
                        by_cases c23 : ((rd_T47 t234 x12_2).f1) = t229
                        · rw [if_pos c23] at H
                          have c23b0 : (((rd_T47 t234 x12_2).f1) == t229) = true := beq_iff_eq.mpr c23
                          have c23b1 : (((rd_T47 t234 x12_2).f1) != t229) = false := bne_eq_false_iff_eq.mpr c23
                          clear c23
                          by_cases c24 : ((rd_T47 t234 x12_2).f4) = (wrap64 (ji14 - x12_2))
                          · rw [if_pos c24] at H
                            have c24b0 : (((rd_T47 t234 x12_2).f4) == (wrap64 (ji14 - x12_2))) = true := beq_iff_eq.mpr c24
                            have c24b1 : (((rd_T47 t234 x12_2).f4) != (wrap64 (ji14 - x12_2))) = false := bne_eq_false_iff_eq.mpr c24
                            clear c24
                            by_cases c25 : ((rd_T47 t234 x12_2).f2) = 0
                            · rw [if_pos c25] at H
                              have c25b0 : (((rd_T47 t234 x12_2).f2) == 0) = true := beq_iff_eq.mpr c25
                              have c25b1 : (((rd_T47 t234 x12_2).f2) != 0) = false := bne_eq_false_iff_eq.mpr c25
                              clear c25
                              have H' := Aside0.mk H
                              clear H
                              have p237 : 0 ≤ (x12_2 : Int) := of_decide_eq_true (by first | (with_reducible assumption) | assumption)
                              have q237 : x12_2 < (t234.length : Int) := of_decide_eq_true (by first | (with_reducible assumption) | assumption)
                              obtain ⟨ad237, e237, hx237_0, hx237_1, hx237_2, hx237_3, hx237_4⟩ := at_T47 (Kd.R_reads' HO_10.out).2.2 x12_2 p237 q237
                              cases e237
                              replace p237 := eq_true p237
                              replace q237 := eq_true q237
                              have p238 : 0 ≤ (x12_2 : Int) := of_decide_eq_true (by first | (with_reducible assumption) | assumption)
                              have q238 : x12_2 < (t234.length : Int) := of_decide_eq_true (by first | (with_reducible assumption) | assumption)
                              obtain ⟨ad238, e238, hx238_0, hx238_1, hx238_2, hx238_3, hx238_4⟩ := at_T47 (Kd.R_reads' HO_10.out).2.2 x12_2 p238 q238
                              obtain rfl : ad237 = ad238 := (by injection e238)
                              replace p238 := eq_true p238
                              replace q238 := eq_true q238
                              have p239 : 0 ≤ (x12_2 : Int) := of_decide_eq_true (by first | (with_reducible assumption) | assumption)
                              have q239 : x12_2 < (t234.length : Int) := of_decide_eq_true (by first | (with_reducible assumption) | assumption)
                              obtain ⟨ad239, e239, hx239_0, hx239_1, hx239_2, hx239_3, hx239_4⟩ := at_T47 (Kd.R_reads' HO_10.out).2.2 x12_2 p239 q239
                              obtain rfl : ad237 = ad239 := (by injection e239)
                              replace p239 := eq_true p239
                              replace q239 := eq_true q239
                              have p240 : 0 ≤ (x12_2 : Int) := of_decide_eq_true (by first | (with_reducible assumption) | assumption)
                              have q240 : x12_2 < (t234.length : Int) := of_decide_eq_true (by first | (with_reducible assumption) | assumption)
                              obtain ⟨ad240, e240, hx240_0, hx240_1, hx240_2, hx240_3, hx240_4⟩ := at_T47 (Kd.R_reads' HO_10.out).2.2 x12_2 p240 q240
                              obtain rfl : ad237 = ad240 := (by injection e240)
                              replace p240 := eq_true p240
                              replace q240 := eq_true q240
                              go_wp2
                              go_roundg k2
                              case measure => have := HK1.out; have := HK2.out; omega
                              case rel => exact ⟨(wrap64 (x12_2 + 1)), (by first | rfl | (simp; done) | (simp [*]; done)), H', ⟨by have := HK1.out; have := HK2.out; omega⟩, ⟨by (with_reducible repeat (first | apply Kd.R_alloc | apply Kd.R_drewN | apply Kd.R_drew)); exact HO_10.out⟩, ⟨by repeat (first | (with_reducible first | exact HB.out | apply below_alloc | apply pw_below_drewN | apply below_drew1) | exact HB.out)⟩⟩
                            · rw [if_neg c25] at H
                              have c25b0 : (((rd_T47 t234 x12_2).f2) == 0) = false := beq_eq_false_iff_ne.mpr c25
                              have c25b1 : (((rd_T47 t234 x12_2).f2) != 0) = true := bne_iff_ne.mpr c25
                              obtain rfl := Option.some.inj H
                              have p237 : 0 ≤ (x12_2 : Int) := of_decide_eq_true (by first | (with_reducible assumption) | assumption)
                              have q237 : x12_2 < (t234.length : Int) := of_decide_eq_true (by first | (with_reducible assumption) | assumption)
                              obtain ⟨ad237, e237, hx237_0, hx237_1, hx237_2, hx237_3, hx237_4⟩ := at_T47 (Kd.R_reads' HO_10.out).2.2 x12_2 p237 q237
                              cases e237
                              replace p237 := eq_true p237
                              replace q237 := eq_true q237
                              have p238 : 0 ≤ (x12_2 : Int) := of_decide_eq_true (by first | (with_reducible assumption) | assumption)
                              have q238 : x12_2 < (t234.length : Int) := of_decide_eq_true (by first | (with_reducible assumption) | assumption)
                              obtain ⟨ad238, e238, hx238_0, hx238_1, hx238_2, hx238_3, hx238_4⟩ := at_T47 (Kd.R_reads' HO_10.out).2.2 x12_2 p238 q238
                              obtain rfl : ad237 = ad238 := (by injection e238)
                              replace p238 := eq_true p238
                              replace q238 := eq_true q238
                              have p239 : 0 ≤ (x12_2 : Int) := of_decide_eq_true (by first | (with_reducible assumption) | assumption)
                              have q239 : x12_2 < (t234.length : Int) := of_decide_eq_true (by first | (with_reducible assumption) | assumption)
                              obtain ⟨ad239, e239, hx239_0, hx239_1, hx239_2, hx239_3, hx239_4⟩ := at_T47 (Kd.R_reads' HO_10.out).2.2 x12_2 p239 q239
                              obtain rfl : ad237 = ad239 := (by injection e239)
                              replace p239 := eq_true p239
                              replace q239 := eq_true q239
                              have p240 : 0 ≤ (x12_2 : Int) := of_decide_eq_true (by first | (with_reducible assumption) | assumption)
                              have q240 : x12_2 < (t234.length : Int) := of_decide_eq_true (by first | (with_reducible assumption) | assumption)
                              obtain ⟨ad240, e240, hx240_0, hx240_1, hx240_2, hx240_3, hx240_4⟩ := at_T47 (Kd.R_reads' HO_10.out).2.2 x12_2 p240 q240
                              obtain rfl : ad237 = ad240 := (by injection e240)
                              replace p240 := eq_true p240
                              replace q240 := eq_true q240
                              go_wp2
                              go_ret
                              exact ⟨by first | rfl | (simp [errW_none, errW_some] <;> rfl) | (simp only [← hji14]; first | rfl | (simp [errW_none, errW_some] <;> rfl)) | (simp [*, errW_none, errW_some] <;> rfl), by repeat (first | (with_reducible first | exact HB.out | apply below_alloc | apply pw_below_drewN | apply below_drew1) | exact HB.out)⟩
                          · rw [if_neg c24] at H
                            have c24b0 : (((rd_T47 t234 x12_2).f4) == (wrap64 (ji14 - x12_2))) = false := beq_eq_false_iff_ne.mpr c24
                            have c24b1 : (((rd_T47 t234 x12_2).f4) != (wrap64 (ji14 - x12_2))) = true := bne_iff_ne.mpr c24
                            obtain rfl := Option.some.inj H
                            have p237 : 0 ≤ (x12_2 : Int) := of_decide_eq_true (by first | (with_reducible assumption) | assumption)
                            have q237 : x12_2 < (t234.length : Int) := of_decide_eq_true (by first | (with_reducible assumption) | assumption)
                            obtain ⟨ad237, e237, hx237_0, hx237_1, hx237_2, hx237_3, hx237_4⟩ := at_T47 (Kd.R_reads' HO_10.out).2.2 x12_2 p237 q237
                            cases e237
                            replace p237 := eq_true p237
                            replace q237 := eq_true q237
                            have p238 : 0 ≤ (x12_2 : Int) := of_decide_eq_true (by first | (with_reducible assumption) | assumption)
                            have q238 : x12_2 < (t234.length : Int) := of_decide_eq_true (by first | (with_reducible assumption) | assumption)
                            obtain ⟨ad238, e238, hx238_0, hx238_1, hx238_2, hx238_3, hx238_4⟩ := at_T47 (Kd.R_reads' HO_10.out).2.2 x12_2 p238 q238
                            obtain rfl : ad237 = ad238 := (by injection e238)
                            replace p238 := eq_true p238
                            replace q238 := eq_true q238
                            have p239 : 0 ≤ (x12_2 : Int) := of_decide_eq_true (by first | (with_reducible assumption) | assumption)
                            have q239 : x12_2 < (t234.length : Int) := of_decide_eq_true (by first | (with_reducible assumption) | assumption)
                            obtain ⟨ad239, e239, hx239_0, hx239_1, hx239_2, hx239_3, hx239_4⟩ := at_T47 (Kd.R_reads' HO_10.out).2.2 x12_2 p239 q239
                            obtain rfl : ad237 = ad239 := (by injection e239)
                            replace p239 := eq_true p239
                            replace q239 := eq_true q239
                            go_wp2
                            go_ret
                            exact ⟨by first | rfl | (simp [errW_none, errW_some] <;> rfl) | (simp only [← hji14]; first | rfl | (simp [errW_none, errW_some] <;> rfl)) | (simp [*, errW_none, errW_some] <;> rfl), by repeat (first | (with_reducible first | exact HB.out | apply below_alloc | apply pw_below_drewN | apply below_drew1) | exact HB.out)⟩
                        · rw [if_neg c23] at H
                          have c23b0 : (((rd_T47 t234 x12_2).f1) == t229) = false := beq_eq_false_iff_ne.mpr c23
                          have c23b1 : (((rd_T47 t234 x12_2).f1) != t229) = true := bne_iff_ne.mpr c23
                          obtain rfl := Option.some.inj H
                          have p237 : 0 ≤ (x12_2 : Int) := of_decide_eq_true (by first | (with_reducible assumption) | assumption)
                          have q237 : x12_2 < (t234.length : Int) := of_decide_eq_true (by first | (with_reducible assumption) | assumption)
                          obtain ⟨ad237, e237, hx237_0, hx237_1, hx237_2, hx237_3, hx237_4⟩ := at_T47 (Kd.R_reads' HO_10.out).2.2 x12_2 p237 q237
                          cases e237
                          replace p237 := eq_true p237
                          replace q237 := eq_true q237
                          have p238 : 0 ≤ (x12_2 : Int) := of_decide_eq_true (by first | (with_reducible assumption) | assumption)
                          have q238 : x12_2 < (t234.length : Int) := of_decide_eq_true (by first | (with_reducible assumption) | assumption)
                          obtain ⟨ad238, e238, hx238_0, hx238_1, hx238_2, hx238_3, hx238_4⟩ := at_T47 (Kd.R_reads' HO_10.out).2.2 x12_2 p238 q238
                          obtain rfl : ad237 = ad238 := (by injection e238)
                          replace p238 := eq_true p238
                          replace q238 := eq_true q238
                          go_wp2
                          go_ret
                          exact ⟨by first | rfl | (simp [errW_none, errW_some] <;> rfl) | (simp only [← hji14]; first | rfl | (simp [errW_none, errW_some] <;> rfl)) | (simp [*, errW_none, errW_some] <;> rfl), by repeat (first | (with_reducible first | exact HB.out | apply below_alloc | apply pw_below_drewN | apply below_drew1) | exact HB.out)⟩
                      · rw [if_neg c22] at H
                        have c22b0 : (((rd_T47 t234 x12_2).f0) == (wrap64 ((wrap64 (t229 - ji14)) + x12_2))) = false := beq_eq_false_iff_ne.mpr c22
                        have c22b1 : (((rd_T47 t234 x12_2).f0) != (wrap64 ((wrap64 (t229 - ji14)) + x12_2))) = true := bne_iff_ne.mpr c22
                        obtain rfl := Option.some.inj H
                        have p237 : 0 ≤ (x12_2 : Int) := of_decide_eq_true (by first | (with_reducible assumption) | assumption)
                        have q237 : x12_2 < (t234.length : Int) := of_decide_eq_true (by first | (with_reducible assumption) | assumption)
                        obtain ⟨ad237, e237, hx237_0, hx237_1, hx237_2, hx237_3, hx237_4⟩ := at_T47 (Kd.R_reads' HO_10.out).2.2 x12_2 p237 q237
                        cases e237
                        replace p237 := eq_true p237
                        replace q237 := eq_true q237
                        go_wp2
                        go_ret
                        exact ⟨by first | rfl | (simp [errW_none, errW_some] <;> rfl) | (simp only [← hji14]; first | rfl | (simp [errW_none, errW_some] <;> rfl)) | (simp [*, errW_none, errW_some] <;> rfl), by repeat (first | (with_reducible first | exact HB.out | apply below_alloc | apply pw_below_drewN | apply below_drew1) | exact HB.out)⟩
                    · rw [if_neg c21] at H
                      exact absurd H (by simp)
                  · rw [if_neg c20] at H
                    exact absurd H (by simp)
                · rw [if_neg c19] at H
                  have c19b0 : decide (x12_2 < ji14) = false := decide_eq_false c19
                  clear c19
                  by_cases c26 : ji14 = 0
                  · rw [if_pos c26] at H
                    have c26b0 : (ji14 == 0) = true := beq_iff_eq.mpr c26
                    have c26b1 : (ji14 != 0) = false := bne_eq_false_iff_eq.mpr c26
                    clear c26
                    obtain rfl := Option.some.inj H
                    go_wp2
                    go_ret
                    exact ⟨by first | rfl | (simp [errW_none, errW_some] <;> rfl) | (simp only [← hji14]; first | rfl | (simp [errW_none, errW_some] <;> rfl)) | (simp [*, errW_none, errW_some] <;> rfl), by repeat (first | (with_reducible first | exact HB.out | apply below_alloc | apply pw_below_drewN | apply below_drew1) | exact HB.out)⟩
                  · rw [if_neg c26] at H
                    have c26b0 : (ji14 == 0) = false := beq_eq_false_iff_ne.mpr c26
                    have c26b1 : (ji14 != 0) = true := bne_iff_ne.mpr c26
                    by_cases c27 : 0 < (t234.length : Int)
                    · rw [if_pos c27] at H
                      have c27b0 : decide (0 < (t234.length : Int)) = true := decide_eq_true c27
                      have c27b1 : decide (0 < t234.length) = true := decide_eq_true (by omega)
                      clear c27
                      obtain rfl := Option.some.inj H
                      have p241 : 0 ≤ (0 : Int) := (by omega)
                      have q241 : 0 < (t234.length : Int) := of_decide_eq_true (by first | (with_reducible assumption) | assumption)
                      obtain ⟨ad241, e241, hx241_0, hx241_1, hx241_2, hx241_3, hx241_4⟩ := at_T47 (Kd.R_reads' HO_10.out).2.2 0 p241 q241
                      cases e241
                      have qi241 : (0 < t234.length) = True := eq_true (by omega)
                      (try rw [show ((0 : Int)).toNat = 0 from rfl] at hx241_0)
                      (try rw [show 0 * 5 = 0 from rfl] at hx241_0)
                      (try rw [Addr.add_zero'] at hx241_0)
                      (try rw [show ((0 : Int)).toNat = 0 from rfl] at hx241_1)
                      (try rw [show 0 * 5 = 0 from rfl] at hx241_1)
                      (try rw [Addr.add_zero'] at hx241_1)
                      (try rw [show ((0 : Int)).toNat = 0 from rfl] at hx241_2)
                      (try rw [show 0 * 5 = 0 from rfl] at hx241_2)
                      (try rw [Addr.add_zero'] at hx241_2)
                      (try rw [show ((0 : Int)).toNat = 0 from rfl] at hx241_3)
                      (try rw [show 0 * 5 = 0 from rfl] at hx241_3)
                      (try rw [Addr.add_zero'] at hx241_3)
                      (try rw [show ((0 : Int)).toNat = 0 from rfl] at hx241_4)
                      (try rw [show 0 * 5 = 0 from rfl] at hx241_4)
                      (try rw [Addr.add_zero'] at hx241_4)
                      replace p241 := eq_true p241
                      replace q241 := eq_true q241
                      go_wp2
                      go_ret
                      exact ⟨by first | rfl | (simp [errW_none, errW_some] <;> rfl) | (simp only [← hji14]; first | rfl | (simp [errW_none, errW_some] <;> rfl)) | (simp [*, errW_none, errW_some] <;> rfl), by repeat (first | (with_reducible first | exact HB.out | apply below_alloc | apply pw_below_drewN | apply below_drew1) | exact HB.out)⟩
                    · rw [if_neg c27] at H
                      exact absurd H (by simp)
          · rw [if_neg c15] at H
            have c15b0 : ((t234.length : Int) == (ji14)) = false := beq_eq_false_iff_ne.mpr c15
            have c15b1 : ((t234.length : Int) != (ji14)) = true := bne_iff_ne.mpr c15
            obtain rfl := Option.some.inj H
            obtain ⟨Ao28, co28, eo28⟩ := Kd.R_slice HO_6.out
            subst eo28
            go_wp2_with (first | ((with_reducible refine gate_callee (f := 20) rfl ?_); refine goesL_ (some 42) rfl rfl Try.func20 (by kernel_rfl) rfl #[.agg #[.string (⟨#[]⟩ : ByteArray), .int .i64 0, .int .i64 0, .slice none 0 0, .slice none 0 0, .slice none 0 0], .slice Ao28 x6_1.length co28] rfl (by (try simp only [List.map_toArray, List.map_cons, List.map_nil]); first | done | rfl | (simp only [List.length_drop, List.length_take]; rfl)) ?_; (refine (lex_Tokens.calls (⟨#[]⟩ : ByteArray) 0 0 _ _ ([] : List (S53)) _ _ ([] : List (S108)) _ _ ([] : List (S138)) _ _ x6_1 t234 _ ?side1 ?side2 ?side3 ?side4 ?side5 ?side6 ?side7 ?side8 A13.out).mono ?_); (case side1 => exact Kd.C_nil _ _); (case side2 => exact Nat.le_refl _); (case side3 => exact Kd.C_nil _ _); (case side4 => exact Nat.le_refl _); (case side5 => exact Kd.C_nil _ _); (case side6 => exact Nat.le_refl _); (case side7 => repeat (first | exact (Kd.R_reads' HO_6.out).2.2 | (with_reducible refine Kd.C_alloc ?_ _) | (with_reducible refine Kd.C_drewN ?_ _) | (with_reducible refine Kd.C_drew ?_))); (case side8 => exact (Kd.R_reads' HO_6.out).2.1); rintro e w29 ⟨v235, rfl, ho0, hb⟩; refine ⟨_, rfl, ?_⟩; have n0_ := Aside0.mk (Kd.R_below (by (with_reducible repeat (first | apply Kd.R_alloc | apply Kd.R_drewN | apply Kd.R_drew)); exact HO_6.out) hb); have n1_ := Aside0.mk (Kd.R_lower ho0 (below_size (by repeat (first | (with_reducible first | exact HB.out | apply below_alloc | apply pw_below_drewN | apply below_drew1) | exact HB.out)))); have n2_ := Aside0.mk (below_step (by repeat (first | (with_reducible first | exact HB.out | apply below_alloc | apply pw_below_drewN | apply below_drew1) | exact HB.out)) hb); clear HO_6; clear HB; have HO_6 := n0_; have HO236 := n1_; have HB := n2_; clear n0_ n1_ n2_; (try clear hb); (try clear hb2); (try clear hk); (try clear hi); (try clear ho0); obtain ⟨Ao30, co30, eo30⟩ := Kd.R_slice HO236.out; subst eo30))
            go_ret
            exact ⟨by first | rfl | (simp [errW_none, errW_some] <;> rfl) | (simp only [← hji14]; first | rfl | (simp [errW_none, errW_some] <;> rfl)) | (simp [*, errW_none, errW_some] <;> rfl), by repeat (first | (with_reducible first | exact HB.out | apply below_alloc | apply pw_below_drewN | apply below_drew1) | exact HB.out)⟩
  · replace c4 := Bool.eq_false_iff.mpr c4
    subst c4
    have H1 : (some false) = some r := by rw [if_neg (show ¬ (false = true) by decide)] at H; exact H
    clear H
    have H := H1
    clear H1
    obtain rfl := Option.some.inj H
    go_enter Try.func6, Try.ntmps6
    go_wp2_with (first | ((with_reducible refine gate_callee (f := 14) rfl ?_); refine goesL_ (some 13) rfl rfl Try.func14 (by kernel_rfl) rfl #[] rfl (by (try simp only [List.map_toArray, List.map_cons, List.map_nil]); first | done | rfl | (simp only [List.length_drop, List.length_take]; rfl)) ?_; (with_reducible refine (interlocutorlaw6_known.calls k  false _ A3.out).mono ?_); rintro e w31 ⟨rfl, hb⟩; refine ⟨_, rfl, ?_⟩; have n0_ := Aside0.mk (below_step (by repeat (first | (with_reducible first | exact HB.out | apply below_alloc | apply pw_below_drewN | apply below_drew1) | exact HB.out)) hb); clear HB; have HB := n0_; clear n0_; (try clear hb); (try clear hb2); (try clear hk); (try clear hi)))
    go_ret
    exact ⟨by first | rfl | (simp [errW_none, errW_some] <;> rfl) | (simp [*, errW_none, errW_some] <;> rfl), by repeat (first | (with_reducible first | exact HB.out | apply below_alloc | apply pw_below_drewN | apply below_drew1) | exact HB.out)⟩

/-- THE ONE PURE STATEMENT of interlocutorlaw6_LexDigits: yours. -/
def interlocutorlaw6_LexDigits.Pure : Prop := ∀ (a0 : Int) (a1 : Int), (Lit.int .i64 a0).wf = true → (Lit.int .i64 a1).wf = true → ∃ k, interlocutorlaw6_LexDigits.f k a0 a1 = some true
theorem interlocutorlaw6_LexDigits.walk (P : interlocutorlaw6_LexDigits.Pure) (a0 : Int) (a1 : Int) (w : World) (w0 : (Lit.int .i64 a0).wf = true) (w1 : (Lit.int .i64 a1).wf = true) :
    Calls Try.prog 6 #[.int .i64 a0, .int .i64 a1] w fun e w' => e = .returned (.bool true) ∧ Below w.heap.size w w' := by
  obtain ⟨k, h⟩ := P a0 a1 w0 w1
  refine (interlocutorlaw6_LexDigits.calls k a0 a1 true w h).mono ?_
  rintro e w' ⟨rfl, hd⟩
  exact ⟨rfl, hd⟩

end Go.Proofs.Ytgbnfjhmobeloaa.G
