-- printed by wip/tool/gprint.py, a program of this work, out of the translation; Lean checks it
import Derived.Test.YtgbnfjhmobeloaaGx0
import Derived.Test.YtgbnfjhmobeloaaGx6
import Derived.Test.YtgbnfjhmobeloaaGx14
import Derived.Test.YtgbnfjhmobeloaaGx15
namespace Go.Proofs.Ytgbnfjhmobeloaa.G
open Go.RowKit Go.Proofs.YtgbnfjhmobeloaaW.PrintWords Go.Proofs.YtgbnfjhmobeloaaW.PrintLast Go.Proofs.YtgbnfjhmobeloaaW.PrintMore Go.Proofs.YtgbnfjhmobeloaaW.VWords
attribute [local go_sem] max2_int min2_int max_two min_two max_three min_three max_four min_four   -- for this text's walks alone
set_option linter.unusedVariables false
set_option linter.unusedSimpArgs false

/-! ### interlocutorlaw6_LexEnds: function 11 -/
mutual
def interlocutorlaw6_LexEnds.j1 : Nat → Int → List Int → Option (Bool)
  | 0, _, _ => none
  | k + 1, x1, x5 => (some (([] : List Int) : List Int)).bind fun y214 => (if y214.length + x5.length < 17592186044416 then (interlocutorlaw6_LexEnds.l1 k x1 (y214 ++ x5) (x5.length : Int) 0) else (none))
def interlocutorlaw6_LexEnds.l1 : Nat → Int → List Int → Int → Int → Option (Bool)
  | 0, _, _, _, _ => none
  | k + 1, x1, x5, x7, x8 => (interlocutorlaw6_within.f x1 6).bind fun t220 => (if x8 < t220 then (if x5.length < 17592186044416 then (interlocutorlaw6_LexEnds.l1 k x1 (x5 ++ [32]) x7 (wrap64 (x8 + 1))) else (none)) else ((lex_Ends.f x5).bind fun t224 => (if (t224.length : Int) = (wrap64 ((x5.length : Int) + 1)) then (interlocutorlaw6_LexEnds.l2 k x7 t224 0) else (some false))))
def interlocutorlaw6_LexEnds.l2 : Nat → Int → List Bool → Int → Option (Bool)
  | 0, _, _, _ => none
  | k + 1, x7, x9, x10 => if x10 < (x9.length : Int) then (if 0 ≤ x10 then (if ((rdOf false x9 x10) != (decide (x10 ≥ x7))) = true then (some false) else (interlocutorlaw6_LexEnds.l2 k x7 x9 (wrap64 (x10 + 1)))) else (none)) else (some true)
def interlocutorlaw6_LexEnds.l0 : Nat → Int → List Int → Option (Bool)
  | 0, _, _ => none
  | k + 1, x1, x5 => if (x5.length : Int) > 0 then (if 0 ≤ (wrap64 ((x5.length : Int) - 1)) then (if (wrap64 ((x5.length : Int) - 1)) < (x5.length : Int) then (if (rd x5 (wrap64 ((x5.length : Int) - 1))) = 32 then (if (wrap64 ((x5.length : Int) - 1)) ≤ (x5.length : Int) then (interlocutorlaw6_LexEnds.l0 k x1 (x5.take ((wrap64 ((x5.length : Int) - 1)) : Int).toNat)) else (none)) else (interlocutorlaw6_LexEnds.j1 k x1 x5)) else (none)) else (none)) else (interlocutorlaw6_LexEnds.j1 k x1 x5)
end
def interlocutorlaw6_LexEnds.f (k : Nat) (l0 : List Int) (a1 : Int) : Option (Bool) := (interlocutorlaw6_known.f k).bind fun t202 => (if t202 = true then ((interlocutorlaw6_Text.f k l0 8).bind fun t203 => ((interlocutorref3_Fold.f k t203).bind fun bt204 => (interlocutorlaw6_LexEnds.l0 k a1 bt204.1))) else (some false))
theorem interlocutorlaw6_LexEnds.mono_l : ∀ k, (∀ y0 y1, LeO (interlocutorlaw6_LexEnds.j1 k y0 y1) (interlocutorlaw6_LexEnds.j1 (k + 1) y0 y1)) ∧ (∀ y0 y1 y2 y3, LeO (interlocutorlaw6_LexEnds.l1 k y0 y1 y2 y3) (interlocutorlaw6_LexEnds.l1 (k + 1) y0 y1 y2 y3)) ∧ (∀ y0 y1 y2, LeO (interlocutorlaw6_LexEnds.l2 k y0 y1 y2) (interlocutorlaw6_LexEnds.l2 (k + 1) y0 y1 y2)) ∧ (∀ y0 y1, LeO (interlocutorlaw6_LexEnds.l0 k y0 y1) (interlocutorlaw6_LexEnds.l0 (k + 1) y0 y1))
  | 0 => ⟨fun _ _ r h => by simp [interlocutorlaw6_LexEnds.j1] at h, fun _ _ _ _ r h => by simp [interlocutorlaw6_LexEnds.l1] at h, fun _ _ _ r h => by simp [interlocutorlaw6_LexEnds.l2] at h, fun _ _ r h => by simp [interlocutorlaw6_LexEnds.l0] at h⟩
  | k + 1 => by
    obtain ⟨ih0, ih1, ih2, ih3⟩ := interlocutorlaw6_LexEnds.mono_l k
    refine ⟨?_, ?_, ?_, ?_⟩
    · intro y0 y1
      unfold interlocutorlaw6_LexEnds.j1
      repeat' first
      | (with_reducible exact ih0 _ _)
      | (with_reducible exact ih1 _ _ _ _)
      | (with_reducible exact ih2 _ _ _)
      | (with_reducible exact ih3 _ _)
      | (with_reducible exact interlocutorlaw6_Text.mono _ _ _)
      | (with_reducible exact interlocutorlaw6_known.mono _)
      | (with_reducible exact interlocutorref3_Fold.mono _ _)
      | (with_reducible exact LeO.refl _)
      | (with_reducible exact LeO.none _)
      | (with_reducible refine LeO.ite ?_ ?_)
      | (with_reducible refine LeO.bind ?_ (fun _ => ?_))
      | exact ih0 _ _
      | exact ih1 _ _ _ _
      | exact ih2 _ _ _
      | exact ih3 _ _
      | exact interlocutorlaw6_Text.mono _ _ _
      | exact interlocutorlaw6_known.mono _
      | exact interlocutorref3_Fold.mono _ _
      | exact LeO.none _
      | refine LeO.ite ?_ ?_
      | refine LeO.bind ?_ (fun _ => ?_)
    · intro y0 y1 y2 y3
      unfold interlocutorlaw6_LexEnds.l1
      repeat' first
      | (with_reducible exact ih0 _ _)
      | (with_reducible exact ih1 _ _ _ _)
      | (with_reducible exact ih2 _ _ _)
      | (with_reducible exact ih3 _ _)
      | (with_reducible exact interlocutorlaw6_Text.mono _ _ _)
      | (with_reducible exact interlocutorlaw6_known.mono _)
      | (with_reducible exact interlocutorref3_Fold.mono _ _)
      | (with_reducible exact LeO.refl _)
      | (with_reducible exact LeO.none _)
      | (with_reducible refine LeO.ite ?_ ?_)
      | (with_reducible refine LeO.bind ?_ (fun _ => ?_))
      | exact ih0 _ _
      | exact ih1 _ _ _ _
      | exact ih2 _ _ _
      | exact ih3 _ _
      | exact interlocutorlaw6_Text.mono _ _ _
      | exact interlocutorlaw6_known.mono _
      | exact interlocutorref3_Fold.mono _ _
      | exact LeO.none _
      | refine LeO.ite ?_ ?_
      | refine LeO.bind ?_ (fun _ => ?_)
    · intro y0 y1 y2
      unfold interlocutorlaw6_LexEnds.l2
      repeat' first
      | (with_reducible exact ih0 _ _)
      | (with_reducible exact ih1 _ _ _ _)
      | (with_reducible exact ih2 _ _ _)
      | (with_reducible exact ih3 _ _)
      | (with_reducible exact interlocutorlaw6_Text.mono _ _ _)
      | (with_reducible exact interlocutorlaw6_known.mono _)
      | (with_reducible exact interlocutorref3_Fold.mono _ _)
      | (with_reducible exact LeO.refl _)
      | (with_reducible exact LeO.none _)
      | (with_reducible refine LeO.ite ?_ ?_)
      | (with_reducible refine LeO.bind ?_ (fun _ => ?_))
      | exact ih0 _ _
      | exact ih1 _ _ _ _
      | exact ih2 _ _ _
      | exact ih3 _ _
      | exact interlocutorlaw6_Text.mono _ _ _
      | exact interlocutorlaw6_known.mono _
      | exact interlocutorref3_Fold.mono _ _
      | exact LeO.none _
      | refine LeO.ite ?_ ?_
      | refine LeO.bind ?_ (fun _ => ?_)
    · intro y0 y1
      unfold interlocutorlaw6_LexEnds.l0
      repeat' first
      | (with_reducible exact ih0 _ _)
      | (with_reducible exact ih1 _ _ _ _)
      | (with_reducible exact ih2 _ _ _)
      | (with_reducible exact ih3 _ _)
      | (with_reducible exact interlocutorlaw6_Text.mono _ _ _)
      | (with_reducible exact interlocutorlaw6_known.mono _)
      | (with_reducible exact interlocutorref3_Fold.mono _ _)
      | (with_reducible exact LeO.refl _)
      | (with_reducible exact LeO.none _)
      | (with_reducible refine LeO.ite ?_ ?_)
      | (with_reducible refine LeO.bind ?_ (fun _ => ?_))
      | exact ih0 _ _
      | exact ih1 _ _ _ _
      | exact ih2 _ _ _
      | exact ih3 _ _
      | exact interlocutorlaw6_Text.mono _ _ _
      | exact interlocutorlaw6_known.mono _
      | exact interlocutorref3_Fold.mono _ _
      | exact LeO.none _
      | refine LeO.ite ?_ ?_
      | refine LeO.bind ?_ (fun _ => ?_)
theorem interlocutorlaw6_LexEnds.mono : ∀ a0 a1 k, LeO (interlocutorlaw6_LexEnds.f k a0 a1) (interlocutorlaw6_LexEnds.f (k + 1) a0 a1) := by
  intro a0 a1 k
  obtain ⟨ih0, ih1, ih2, ih3⟩ := interlocutorlaw6_LexEnds.mono_l k
  unfold interlocutorlaw6_LexEnds.f
  repeat' first
      | (with_reducible exact ih0 _ _)
      | (with_reducible exact ih1 _ _ _ _)
      | (with_reducible exact ih2 _ _ _)
      | (with_reducible exact ih3 _ _)
      | (with_reducible exact interlocutorlaw6_Text.mono _ _ _)
      | (with_reducible exact interlocutorlaw6_known.mono _)
      | (with_reducible exact interlocutorref3_Fold.mono _ _)
      | (with_reducible exact LeO.refl _)
      | (with_reducible exact LeO.none _)
      | (with_reducible refine LeO.ite ?_ ?_)
      | (with_reducible refine LeO.bind ?_ (fun _ => ?_))
      | exact ih0 _ _
      | exact ih1 _ _ _ _
      | exact ih2 _ _ _
      | exact ih3 _ _
      | exact interlocutorlaw6_Text.mono _ _ _
      | exact interlocutorlaw6_known.mono _
      | exact interlocutorref3_Fold.mono _ _
      | exact LeO.none _
      | refine LeO.ite ?_ ?_
      | refine LeO.bind ?_ (fun _ => ?_)
set_option maxHeartbeats 8000000 in
set_option maxRecDepth 100000 in
theorem interlocutorlaw6_LexEnds.calls (k : Nat) (A0 : Option Addr) (c0 : Nat) (l0 : List Int) (a1 : Int) (r : Bool) (w : World) (hr0 : Kd.C (Kd.int .i64) w A0 l0.length l0) (hc0 : l0.length ≤ c0) (h : interlocutorlaw6_LexEnds.f k l0 a1 = some r) :
    Calls Try.prog 11 #[.slice A0 l0.length c0, .int .i64 a1] w fun e w' => e = .returned (.bool r) ∧ Below w.heap.size w w' := by
  have HR0 := Aside0.mk hr0
  have HC0 := Aside0.mk hc0
  clear hr0 hc0
  have HB := Aside0.mk (Below.refl w.heap.size w)
  have H : ((interlocutorlaw6_known.f k).bind fun t202 => (if t202 = true then ((interlocutorlaw6_Text.f k l0 8).bind fun t203 => ((interlocutorref3_Fold.f k t203).bind fun bt204 => (interlocutorlaw6_LexEnds.l0 k a1 bt204.1))) else (some false))) = some r := h
  clear h
  replace H := Option.bind_eq_some_iff.mp H
  obtain ⟨t202, A30, H⟩ := H
  replace H : (if t202 = true then ((interlocutorlaw6_Text.f k l0 8).bind fun t203 => ((interlocutorref3_Fold.f k t203).bind fun bt204 => (interlocutorlaw6_LexEnds.l0 k a1 bt204.1))) else (some false)) = some r := H
  have A3 := Aside0.mk A30
  clear A30
  by_cases c4 : t202 = true
  · subst c4
    have H1 : ((interlocutorlaw6_Text.f k l0 8).bind fun t203 => ((interlocutorref3_Fold.f k t203).bind fun bt204 => (interlocutorlaw6_LexEnds.l0 k a1 bt204.1))) = some r := by rw [if_pos rfl] at H; exact H
    clear H
    have H := H1
    clear H1
    replace H := Option.bind_eq_some_iff.mp H
    obtain ⟨t203, A50, H⟩ := H
    replace H : ((interlocutorref3_Fold.f k t203).bind fun bt204 => (interlocutorlaw6_LexEnds.l0 k a1 bt204.1)) = some r := H
    have A5 := Aside0.mk A50
    clear A50
    replace H := Option.bind_eq_some_iff.mp H
    obtain ⟨⟨t204, t205⟩, A60, H⟩ := H
    replace H : (interlocutorlaw6_LexEnds.l0 k a1 t204) = some r := H
    have A6 := Aside0.mk A60
    clear A60
    have HC7 := Aside0.mk H
    clear H
    go_enter Try.func11, Try.ntmps11
    go_upto_block 0 with (first | ((with_reducible refine gate_callee (f := 14) rfl ?_); refine goesL_ (some 11) rfl rfl Try.func14 (by kernel_rfl) rfl #[] rfl (by (try simp only [List.map_toArray, List.map_cons, List.map_nil]); first | done | rfl | (simp only [List.length_drop, List.length_take]; rfl)) ?_; (with_reducible refine (interlocutorlaw6_known.calls k  true _ A3.out).mono ?_); rintro e w8 ⟨rfl, hb⟩; refine ⟨_, rfl, ?_⟩; have n0_ := Aside0.mk (below_step (by repeat (first | (with_reducible first | exact HB.out | apply below_alloc | apply pw_below_drewN | apply below_drew1) | exact HB.out)) hb); clear HB; have HB := n0_; clear n0_; (try clear hb); (try clear hb2); (try clear hk); (try clear hi)) | ((with_reducible refine gate_callee (f := 17) rfl ?_); refine goesL_ (some 15) rfl rfl Try.func17 (by kernel_rfl) rfl #[.slice A0 l0.length c0, .int .i64 8] rfl (by (try simp only [List.map_toArray, List.map_cons, List.map_nil]); first | done | rfl | (simp only [List.length_drop, List.length_take]; rfl)) ?_; (with_reducible refine (interlocutorlaw6_Text.calls k _ _ l0 8 t203 _ ?side1 ?side2 A5.out).mono ?_); (case side1 => repeat (first | exact (Kd.C_below HR0.out HB.out) | (with_reducible refine Kd.C_alloc ?_ _) | (with_reducible refine Kd.C_drewN ?_ _) | (with_reducible refine Kd.C_drew ?_))); (case side2 => exact HC0.out); rintro e w9 ⟨rfl, hb⟩; refine ⟨_, rfl, ?_⟩; have n0_ := Aside0.mk (below_step (by repeat (first | (with_reducible first | exact HB.out | apply below_alloc | apply pw_below_drewN | apply below_drew1) | exact HB.out)) hb); clear HB; have HB := n0_; clear n0_; (try clear hb); (try clear hb2); (try clear hk); (try clear hi)) | ((with_reducible refine gate_callee (f := 19) rfl ?_); refine goesL_ (some 16) rfl rfl Try.func19 (by kernel_rfl) rfl #[.string t203] rfl (by (try simp only [List.map_toArray, List.map_cons, List.map_nil]); first | done | rfl | (simp only [List.length_drop, List.length_take]; rfl)) ?_; (with_reducible refine (interlocutorref3_Fold.calls k t203 t204 t205 _ A6.out).mono ?_); rintro e w10 ⟨v206, v208, rfl, ho0, ho1, hb⟩; refine ⟨_, rfl, ?_⟩; have n0_ := Aside0.mk (Kd.R_lower ho0 (below_size (by repeat (first | (with_reducible first | exact HB.out | apply below_alloc | apply pw_below_drewN | apply below_drew1) | exact HB.out)))); have n1_ := Aside0.mk (Kd.R_lower ho1 (below_size (by repeat (first | (with_reducible first | exact HB.out | apply below_alloc | apply pw_below_drewN | apply below_drew1) | exact HB.out)))); have n2_ := Aside0.mk (below_step (by repeat (first | (with_reducible first | exact HB.out | apply below_alloc | apply pw_below_drewN | apply below_drew1) | exact HB.out)) hb); clear HB; have HO207 := n0_; have HO209 := n1_; have HB := n2_; clear n0_ n1_ n2_; (try clear hb); (try clear hb2); (try clear hk); (try clear hi); (try clear ho0); (try clear ho1)))
    (try simp only [Act.put, List.setIfInBounds_toArray, List.set_cons_zero, List.set_cons_succ])
    go_cut [5] (fun v5 wc => ∃ (kq : Nat) (x5_6 : List Int), Aside0 (interlocutorlaw6_LexEnds.j1 kq a1 x5_6 = some r) ∧ Aside0 (kq ≤ k) ∧ Aside0 (Kd.R (Kd.int .i64) 3 wc w.heap.size (fun _ => True) v5 x5_6) ∧ Aside0 (Below w.heap.size w wc))
    case first =>
      have H := HC7.out
      clear HC7
      have H' := Aside0.mk H
      clear H
      go_wp2
      go_loopg [5] k (fun kq v5 w' => ∃ (x5_1 : List Int), Aside0 (interlocutorlaw6_LexEnds.l0 kq a1 x5_1 = some r) ∧ Aside0 (kq ≤ k) ∧ Aside0 (Kd.R (Kd.int .i64) 3 w' w.heap.size (fun _ => True) v5 x5_1) ∧ Aside0 (Below w.heap.size w w'))
      case atStart => exact ⟨(t204), H', ⟨Nat.le_refl _⟩, ⟨by (with_reducible repeat (first | apply Kd.R_alloc | apply Kd.R_drewN | apply Kd.R_drew)); exact Kd.R_mono HO207.out (fun _ hk => trivial)⟩, ⟨by repeat (first | (with_reducible first | exact HB.out | apply below_alloc | apply pw_below_drewN | apply below_drew1) | exact HB.out)⟩⟩
      case round =>
        clear H'
        try clear c1
        try clear p2
        try clear c4
        obtain ⟨x5_1, HA, HK1, HO_5, HB⟩ := hrel
        cases gk with
        | zero => exact absurd HA.out (by simp [interlocutorlaw6_LexEnds.l0])
        | succ k1 =>
          have H := HA.out
          clear HA
          simp only [interlocutorlaw6_LexEnds.l0] at H
          by_cases c11 : (x5_1.length : Int) > 0
          · rw [if_pos c11] at H
            have c11b0 : decide (0 < (x5_1.length : Int)) = true := decide_eq_true c11
            have c11b1 : decide (0 < x5_1.length) = true := decide_eq_true (by omega)
            clear c11
            (first | rw [c11b0] | (simp only [i64_w, i32_w]; rw [c11b0]) | skip)
            obtain ⟨ji12, hji12⟩ : ∃ j_ : Int, (wrap64 ((x5_1.length : Int) - 1)) = j_ := ⟨_, rfl⟩
            replace H : (if 0 ≤ (ji12) then (if (ji12) < (x5_1.length : Int) then (if (rd x5_1 (ji12)) = 32 then (if (ji12) ≤ (x5_1.length : Int) then (interlocutorlaw6_LexEnds.l0 k1 a1 (x5_1.take ((ji12) : Int).toNat)) else (none)) else (interlocutorlaw6_LexEnds.j1 k1 a1 x5_1)) else (none)) else (none)) = some r := by first | (rw [hji12] at H; exact H) | (simp only [hji12] at H ⊢; exact H)
            have hji12w : (IntKind.i64.wrap ((x5_1.length : Int) - 1)) = ji12 := (i64_w _).trans hji12
            by_cases c13 : 0 ≤ (ji12)
            · rw [if_pos c13] at H
              have c13b0 : decide (0 ≤ (ji12)) = true := decide_eq_true c13
              clear c13
              by_cases c14 : (ji12) < (x5_1.length : Int)
              · rw [if_pos c14] at H
                have c14b0 : decide ((ji12) < (x5_1.length : Int)) = true := decide_eq_true c14
                clear c14
                by_cases c15 : (rd x5_1 (ji12)) = 32
                · rw [if_pos c15] at H
                  have c15b0 : ((rd x5_1 (ji12)) == 32) = true := beq_iff_eq.mpr c15
                  have c15b1 : ((rd x5_1 (ji12)) != 32) = false := bne_eq_false_iff_eq.mpr c15
                  clear c15
                  by_cases c16 : (ji12) ≤ (x5_1.length : Int)
                  · rw [if_pos c16] at H
                    have c16b0 := eq_true c16
                    have c16b1 : decide ((ji12) ≤ (x5_1.length : Int)) = true := decide_eq_true c16
                    clear c16
                    obtain ⟨y211, hy211⟩ : ∃ y_ : List Int, y_ = (x5_1.take ((ji12) : Int).toNat) := ⟨_, rfl⟩
                    replace H : (interlocutorlaw6_LexEnds.l0 k1 a1 y211) = some r := by first | (rw [hy211]; with_reducible exact H) | (have H2_ := (Option.bind_some _ _).symm.trans H; rw [hy211]; with_reducible exact H2_) | (have H2_ := (Option.bind_some _ _).symm.trans H; with_reducible exact H2_) | with_reducible exact H | (rw [hy211]; exact H) | exact H
                    have Ny211 := Aside0.mk hy211
                    clear hy211
                    have H' := Aside0.mk H
                    clear H
                    obtain ⟨Ao17, co17, eo17⟩ := Kd.R_slice HO_5.out
                    subst eo17
                    have p210 : 0 ≤ ((ji12) : Int) := of_decide_eq_true (by first | (with_reducible assumption) | assumption)
                    have q210 : (ji12) < (x5_1.length : Int) := of_decide_eq_true (by first | (with_reducible assumption) | assumption)
                    obtain ⟨ad210, e210, hx210_0⟩ := Kd.at_int (Kd.R_reads' HO_5.out).2.2 (ji12) p210 q210
                    cases e210
                    replace p210 := eq_true p210
                    replace q210 := eq_true q210
                    have q18 : ((ji12) : Int) ≤ ((x5_1.length : Int) : Int) := of_decide_eq_true (by first | (with_reducible assumption) | assumption)
                    obtain ⟨i018, hi018, _, hsz18, _⟩ := info_parts info3
                    have hcut18 := cut_to (P := Try.prog) 25 3 .i64 Try.underlying25 hi018 (some ad210) x5_1.length co17 (ji12) (of_decide_eq_true (by first | (with_reducible assumption) | assumption)) q18 (Kd.R_reads' HO_5.out).2.1
                    have hr18 := Kd.R_take (m := ((ji12) : Int).toNat) HO_5.out (by omega)
                    have hy18 : y211.length = ((ji12) : Int).toNat := (by rw [Ny211.out, List.length_take]; omega)
                    rw [← Ny211.out] at hr18
                    rw [← hy18] at hr18 hcut18
                    clear hy18 hi018 hsz18 HO_5
                    have HO213 := Aside0.mk hr18
                    clear hr18
                    replace q18 := eq_true q18
                    go_wp2
                    go_roundg k1
                    case measure => have := HK1.out; omega
                    case rel => exact ⟨(y211), H', ⟨by have := HK1.out; omega⟩, ⟨by (with_reducible repeat (first | apply Kd.R_alloc | apply Kd.R_drewN | apply Kd.R_drew)); exact HO213.out⟩, ⟨by repeat (first | (with_reducible first | exact HB.out | apply below_alloc | apply pw_below_drewN | apply below_drew1) | exact HB.out)⟩⟩
                  · rw [if_neg c16] at H
                    exact absurd H (by simp)
                · rw [if_neg c15] at H
                  have c15b0 : ((rd x5_1 (ji12)) == 32) = false := beq_eq_false_iff_ne.mpr c15
                  have c15b1 : ((rd x5_1 (ji12)) != 32) = true := bne_iff_ne.mpr c15
                  have H' := Aside0.mk H
                  clear H
                  obtain ⟨Ao19, co19, eo19⟩ := Kd.R_slice HO_5.out
                  subst eo19
                  have p210 : 0 ≤ ((ji12) : Int) := of_decide_eq_true (by first | (with_reducible assumption) | assumption)
                  have q210 : (ji12) < (x5_1.length : Int) := of_decide_eq_true (by first | (with_reducible assumption) | assumption)
                  obtain ⟨ad210, e210, hx210_0⟩ := Kd.at_int (Kd.R_reads' HO_5.out).2.2 (ji12) p210 q210
                  cases e210
                  replace p210 := eq_true p210
                  replace q210 := eq_true q210
                  go_wp2
                  go_meet
                  case rel => exact ⟨_, (x5_1), H', ⟨by have := HK1.out; first | omega | exact Nat.le_refl _⟩, ⟨by (with_reducible repeat (first | apply Kd.R_alloc | apply Kd.R_drewN | apply Kd.R_drew)); exact HO_5.out⟩, ⟨by repeat (first | (with_reducible first | exact HB.out | apply below_alloc | apply pw_below_drewN | apply below_drew1) | exact HB.out)⟩⟩
              · rw [if_neg c14] at H
                exact absurd H (by simp)
            · rw [if_neg c13] at H
              exact absurd H (by simp)
          · rw [if_neg c11] at H
            have c11b0 : decide (0 < (x5_1.length : Int)) = false := decide_eq_false c11
            have c11b1 : decide (0 < x5_1.length) = false := decide_eq_false (by omega)
            clear c11
            (first | rw [c11b0] | (simp only [i64_w, i32_w]; rw [c11b0]) | skip)
            have H' := Aside0.mk H
            clear H
            obtain ⟨Ao20, co20, eo20⟩ := Kd.R_slice HO_5.out
            subst eo20
            go_wp2
            go_meet
            case rel => exact ⟨_, (x5_1), H', ⟨by have := HK1.out; first | omega | exact Nat.le_refl _⟩, ⟨by (with_reducible repeat (first | apply Kd.R_alloc | apply Kd.R_drewN | apply Kd.R_drew)); exact HO_5.out⟩, ⟨by repeat (first | (with_reducible first | exact HB.out | apply below_alloc | apply pw_below_drewN | apply below_drew1) | exact HB.out)⟩⟩
    case rest =>
      clear HC7
      try clear c1
      try clear q1
      try clear p2
      try clear q2
      try clear hx2
      try clear c4
      try clear p6
      try clear c11
      try clear c11b0
      try clear c11b1
      try clear c13
      try clear c13b0
      try clear c14
      try clear c14b0
      try clear c15
      try clear c15b0
      try clear c15b1
      try clear c16
      try clear c16b0
      try clear c16b1
      try clear c17
      try clear q18
      try clear c19
      try clear hx210_0
      try clear p2
      try clear p210
      try clear q18
      try clear q210
      obtain ⟨kq, x5_6, HA, HJ6, HO_5, HB⟩ := hcut
      cases kq with
      | zero => exact absurd HA.out (by simp [interlocutorlaw6_LexEnds.j1])
      | succ kj6 =>
        have H := HA.out
        clear HA
        simp only [interlocutorlaw6_LexEnds.j1] at H
        obtain ⟨y214, hy214⟩ : ∃ y_ : List Int, y_ = (([] : List Int)) := ⟨_, rfl⟩
        replace H : (if y214.length + x5_6.length < 17592186044416 then (interlocutorlaw6_LexEnds.l1 kj6 a1 (y214 ++ x5_6) (x5_6.length : Int) 0) else (none)) = some r := by first | (rw [hy214]; with_reducible exact H) | (have H2_ := (Option.bind_some _ _).symm.trans H; rw [hy214]; with_reducible exact H2_) | (have H2_ := (Option.bind_some _ _).symm.trans H; with_reducible exact H2_) | with_reducible exact H | (rw [hy214]; exact H) | exact H
        have Ny214 := Aside0.mk hy214
        clear hy214
        by_cases c21 : y214.length + x5_6.length < 17592186044416
        · rw [if_pos c21] at H
          have LMc21 := Aside0.mk c21
          clear c21
          obtain ⟨y217, hy217⟩ : ∃ y_ : List Int, y_ = (y214 ++ x5_6) := ⟨_, rfl⟩
          replace H : (interlocutorlaw6_LexEnds.l1 kj6 a1 y217 (x5_6.length : Int) 0) = some r := by first | (rw [hy217]; with_reducible exact H) | (have H2_ := (Option.bind_some _ _).symm.trans H; rw [hy217]; with_reducible exact H2_) | (have H2_ := (Option.bind_some _ _).symm.trans H; with_reducible exact H2_) | with_reducible exact H | (rw [hy217]; exact H) | exact H
          have Ny217 := Aside0.mk hy217
          clear hy217
          have H' := Aside0.mk H
          clear H
          obtain ⟨Ao22, co22, eo22⟩ := Kd.R_slice HO_5.out
          subst eo22
          go_wp2_with (first | ((with_reducible refine gate_dst (N := 38) rfl ?_); (try (refine gate_guard (by rfl) ?_; dsimp only)); refine Kd.R_lit (Kd.int .i64) _ 3 ?hg (N := 38) ?hd (xs := ([] : List Int)) (inner := []) (ok := fun _ => True) (okp := fun _ => True) ?hr ?hp (fun _ hk => hk) trivial (Below.refl _ _) (Nat.le_refl _) (by simp) ?_; (case hd => rfl); (case hg => rfl); (case hr => first | (go_simp; done) | (go_simp; rfl)); (case hp => exact (Reps.none _ _)); intro v215 w23 ho24 hb hg_ hnew_; clear hg_ hnew_; (first | rw [← Ny214.out] at ho24 | (simp only [Int.reduceToNat] at ho24; rw [← Ny214.out] at ho24)); have n0_ := Aside0.mk (Kd.R_elder' (by (with_reducible repeat (first | apply Kd.R_alloc | apply Kd.R_drewN | apply Kd.R_drew)); exact HO_5.out) (Kd.R_base ho24) hb); have n1_ := Aside0.mk (Kd.R_lower (Kd.R_new' ho24 (Kd.R_lt (by (with_reducible repeat (first | apply Kd.R_alloc | apply Kd.R_drewN | apply Kd.R_drew)); exact HO_5.out))) (below_size (by repeat (first | (with_reducible first | exact HB.out | apply below_alloc | apply pw_below_drewN | apply below_drew1) | exact HB.out)))); have n2_ := Aside0.mk (below_step (by repeat (first | (with_reducible first | exact HB.out | apply below_alloc | apply pw_below_drewN | apply below_drew1) | exact HB.out)) hb); clear HO_5; clear HB; have HO_5 := n0_; have HO216 := n1_; have HB := n2_; clear n0_ n1_ n2_; clear hb ho24) | ((with_reducible refine gate_builtin (b := .append) (xs := #[.tmp 38, .tmp 39]) rfl ?_); (try (refine gate_guard (by rfl) ?_; dsimp only)); at_builtin; refine Kd.R_append_rows (Kd.int .i64) (w0 := w) w.heap.size rfl (.tmp 38) (.tmp 39) 25 3 (.int .i64 0) 8 rfl Try.underlying25 info3 rfl (by decide) (by omega) v215 y214 x5_6 _ _ _ (fun k_ => some k_ ≠ (.slice Ao22 x5_6.length co22 : Value).ownBlock) (fun _ => False) rfl rfl ?aO ?aR (fun _ _ h => h) (fun _ h => h.elim) ?aF ?aB ?aS ?aL ?_; (case aR => repeat (first | exact (Kd.R_reads' HO_5.out).2.2 | (with_reducible refine Kd.C_alloc ?_ _) | (with_reducible refine Kd.C_drewN ?_ _) | (with_reducible refine Kd.C_drew ?_))); (case aB => exact (by repeat (first | (with_reducible first | exact HB.out | apply below_alloc | apply pw_below_drewN | apply below_drew1) | exact HB.out))); (case aF => exact (fun k_ hk => Kd.fresh' (Kd.R_lt (by (with_reducible repeat (first | apply Kd.R_alloc | apply Kd.R_drewN | apply Kd.R_drew)); exact HO_5.out)) k_ hk)); (case aO => exact (by (with_reducible repeat (first | apply Kd.R_alloc | apply Kd.R_drewN | apply Kd.R_drew)); exact Kd.R_mono HO216.out (fun _ hk => hk.2))); (case aS => exact (below_size (by repeat (first | (with_reducible first | exact HB.out | apply below_alloc | apply pw_below_drewN | apply below_drew1) | exact HB.out)))); (case aL => have := LMc21.out; omega); intro v218 w25 ho hb hg hat; rw [← Ny217.out] at ho; have n0_ := Aside0.mk (Kd.R_after (ok := (fun _ => True)) (by (with_reducible repeat (first | apply Kd.R_alloc | apply Kd.R_drewN | apply Kd.R_drew)); exact HO_5.out) hg hat); have n1_ := Aside0.mk (hb); have n2_ := Aside0.mk (ho); clear HO_5; clear HB; clear HO216; have HO_5 := n0_; have HB := n1_; have HO219 := n2_; clear n0_ n1_ n2_; clear ho hb hg hat))
          go_loopg [5, 8] kj6 (fun kq v5 v8 w' => ∃ (x5_2 : List Int) (x8_2 : Int), v8 = .int .i64 x8_2 ∧ Aside0 (interlocutorlaw6_LexEnds.l1 kq a1 x5_2 (x5_6.length : Int) x8_2 = some r) ∧ Aside0 (kq ≤ kj6) ∧ Aside0 (Kd.R (Kd.int .i64) 3 w' w.heap.size (fun _ => True) v5 x5_2) ∧ Aside0 (Below w.heap.size w w'))
          case atStart => exact ⟨(y217), (0), (by first | rfl | (simp; done) | (simp [*]; done)), H', ⟨Nat.le_refl _⟩, ⟨by (with_reducible repeat (first | apply Kd.R_alloc | apply Kd.R_drewN | apply Kd.R_drew)); exact Kd.R_mono HO219.out (fun _ hk => trivial)⟩, ⟨by repeat (first | (with_reducible first | exact HB.out | apply below_alloc | apply pw_below_drewN | apply below_drew1) | exact HB.out)⟩⟩
          case round =>
            clear H'
            try clear c1
            try clear q1
            try clear c2
            try clear p2
            try clear q2
            try clear hx2
            try clear c4
            try clear p6
            try clear c11
            try clear c11b0
            try clear c11b1
            try clear c13
            try clear c13b0
            try clear c14
            try clear c14b0
            try clear c15
            try clear c15b0
            try clear c15b1
            try clear c16
            try clear c16b0
            try clear c16b1
            try clear c17
            try clear q18
            try clear c19
            try clear c21
            try clear p21
            try clear q21
            try clear hx21
            try clear hx210_0
            try clear p2
            try clear p210
            try clear p6
            try clear q1
            try clear q18
            try clear q2
            try clear q210
            obtain ⟨x5_2, x8_2, rfl, HA, HK2, HO_5, HB⟩ := hrel
            cases gk with
            | zero => exact absurd HA.out (by simp [interlocutorlaw6_LexEnds.l1])
            | succ k2 =>
              have H := HA.out
              clear HA
              simp only [interlocutorlaw6_LexEnds.l1] at H
              replace H := Option.bind_eq_some_iff.mp H
              obtain ⟨t220, A260, H⟩ := H
              replace H : (if x8_2 < t220 then (if x5_2.length < 17592186044416 then (interlocutorlaw6_LexEnds.l1 k2 a1 (x5_2 ++ [32]) (x5_6.length : Int) (wrap64 (x8_2 + 1))) else (none)) else ((lex_Ends.f x5_2).bind fun t224 => (if (t224.length : Int) = (wrap64 ((x5_2.length : Int) + 1)) then (interlocutorlaw6_LexEnds.l2 k2 (x5_6.length : Int) t224 0) else (some false)))) = some r := H
              have A26 := Aside0.mk A260
              clear A260
              by_cases c27 : x8_2 < t220
              · rw [if_pos c27] at H
                have c27b0 : decide (x8_2 < t220) = true := decide_eq_true c27
                clear c27
                by_cases c28 : x5_2.length < 17592186044416
                · rw [if_pos c28] at H
                  have LMc28 := Aside0.mk c28
                  clear c28
                  obtain ⟨y221, hy221⟩ : ∃ y_ : List Int, y_ = (x5_2 ++ [32]) := ⟨_, rfl⟩
                  replace H : (interlocutorlaw6_LexEnds.l1 k2 a1 y221 (x5_6.length : Int) (wrap64 (x8_2 + 1))) = some r := by first | (rw [hy221]; with_reducible exact H) | (have H2_ := (Option.bind_some _ _).symm.trans H; rw [hy221]; with_reducible exact H2_) | (have H2_ := (Option.bind_some _ _).symm.trans H; with_reducible exact H2_) | with_reducible exact H | (rw [hy221]; exact H) | exact H
                  have Ny221 := Aside0.mk hy221
                  clear hy221
                  have H' := Aside0.mk H
                  clear H
                  go_wp2_with (first | ((with_reducible refine gate_callee (f := 27) rfl ?_); refine goesL_ (some 43) rfl rfl Try.func27 (by kernel_rfl) rfl #[.int .i64 a1, .int .i64 6] rfl (by (try simp only [List.map_toArray, List.map_cons, List.map_nil]); first | done | rfl | (simp only [List.length_drop, List.length_take]; rfl)) ?_; (with_reducible refine (interlocutorlaw6_within.calls a1 6 t220 _ A26.out).mono ?_); rintro e w' ⟨rfl, ⟨nd, rfl⟩⟩; refine ⟨_, rfl, ?_⟩) | ((with_reducible refine gate_builtin (b := .append) (xs := #[.tmp 47, .tmp 48]) rfl ?_); (try (refine gate_guard (by rfl) ?_; dsimp only)); at_builtin; refine Kd.R_append (Kd.int .i64) (w0 := w) w.heap.size rfl (.tmp 47) (.tmp 48) 25 3 (.int .i64 0) 8 rfl Try.underlying25 info3 rfl (by decide) (by omega) u5 x5_2 32 [.int .i64 32] (fun _ => True) (fun _ => False) rfl rfl ?aP (fun _ hk => hk.elim) ?aF ?aO ?aB ?aS ?aL ?_; (case aP => exact rfl); (case aB => exact (by repeat (first | (with_reducible first | exact HB.out | apply below_alloc | apply pw_below_drewN | apply below_drew1) | exact HB.out))); (case aF => exact (fun _ _ => trivial)); (case aO => exact (by (with_reducible repeat (first | apply Kd.R_alloc | apply Kd.R_drewN | apply Kd.R_drew)); exact HO_5.out)); (case aS => exact (below_size (by repeat (first | (with_reducible first | exact HB.out | apply below_alloc | apply pw_below_drewN | apply below_drew1) | exact HB.out)))); (case aL => have := LMc28.out; omega); intro v222 w29 ho hb hg hat; rw [← Ny221.out] at ho; have n0_ := Aside0.mk (hb); have n1_ := Aside0.mk (ho); clear HB; clear HO_5; have HB := n0_; have HO223 := n1_; clear n0_ n1_; clear ho hb hg hat))
                  go_roundg k2
                  case measure => have := HJ6.out; have := HK2.out; omega
                  case rel => exact ⟨(y221), (wrap64 (x8_2 + 1)), (by first | rfl | (simp; done) | (simp [*]; done)), H', ⟨by have := HJ6.out; have := HK2.out; omega⟩, ⟨by (with_reducible repeat (first | apply Kd.R_alloc | apply Kd.R_drewN | apply Kd.R_drew)); exact HO223.out⟩, ⟨by repeat (first | (with_reducible first | exact HB.out | apply below_alloc | apply pw_below_drewN | apply below_drew1) | exact HB.out)⟩⟩
                · rw [if_neg c28] at H
                  exact absurd H (by simp)
              · rw [if_neg c27] at H
                have c27b0 : decide (x8_2 < t220) = false := decide_eq_false c27
                clear c27
                replace H := Option.bind_eq_some_iff.mp H
                obtain ⟨t224, A300, H⟩ := H
                replace H : (if (t224.length : Int) = (wrap64 ((x5_2.length : Int) + 1)) then (interlocutorlaw6_LexEnds.l2 k2 (x5_6.length : Int) t224 0) else (some false)) = some r := H
                have A30 := Aside0.mk A300
                clear A300
                by_cases c31 : (t224.length : Int) = (wrap64 ((x5_2.length : Int) + 1))
                · rw [if_pos c31] at H
                  have c31b0 : ((t224.length : Int) == (wrap64 ((x5_2.length : Int) + 1))) = true := beq_iff_eq.mpr c31
                  have c31b1 : ((t224.length : Int) != (wrap64 ((x5_2.length : Int) + 1))) = false := bne_eq_false_iff_eq.mpr c31
                  clear c31
                  have H' := Aside0.mk H
                  clear H
                  go_wp2_with (first | ((with_reducible refine gate_callee (f := 27) rfl ?_); refine goesL_ (some 43) rfl rfl Try.func27 (by kernel_rfl) rfl #[.int .i64 a1, .int .i64 6] rfl (by (try simp only [List.map_toArray, List.map_cons, List.map_nil]); first | done | rfl | (simp only [List.length_drop, List.length_take]; rfl)) ?_; (with_reducible refine (interlocutorlaw6_within.calls a1 6 t220 _ A26.out).mono ?_); rintro e w' ⟨rfl, ⟨nd, rfl⟩⟩; refine ⟨_, rfl, ?_⟩; obtain ⟨Ao32, co32, eo32⟩ := Kd.R_slice HO_5.out; subst eo32) | ((with_reducible refine gate_callee (f := 22) rfl ?_); refine goesL_ (some 51) rfl rfl Try.func22 (by kernel_rfl) rfl #[.slice Ao32 x5_2.length co32] rfl (by (try simp only [List.map_toArray, List.map_cons, List.map_nil]); first | done | rfl | (simp only [List.length_drop, List.length_take]; rfl)) ?_; (with_reducible refine (lex_Ends.calls _ _ x5_2 t224 _ ?side1 ?side2 A30.out).mono ?_); (case side1 => repeat (first | exact (Kd.R_reads' HO_5.out).2.2 | (with_reducible refine Kd.C_alloc ?_ _) | (with_reducible refine Kd.C_drewN ?_ _) | (with_reducible refine Kd.C_drew ?_))); (case side2 => exact (Kd.R_reads' HO_5.out).2.1); rintro e w33 ⟨v225, rfl, ho0, hb⟩; refine ⟨_, rfl, ?_⟩; have n0_ := Aside0.mk (Kd.R_below (by (with_reducible repeat (first | apply Kd.R_alloc | apply Kd.R_drewN | apply Kd.R_drew)); exact HO_5.out) hb); have n1_ := Aside0.mk (Kd.R_lower ho0 (below_size (by repeat (first | (with_reducible first | exact HB.out | apply below_alloc | apply pw_below_drewN | apply below_drew1) | exact HB.out)))); have n2_ := Aside0.mk (below_step (by repeat (first | (with_reducible first | exact HB.out | apply below_alloc | apply pw_below_drewN | apply below_drew1) | exact HB.out)) hb); clear HO_5; clear HB; have HO_5 := n0_; have HO226 := n1_; have HB := n2_; clear n0_ n1_ n2_; (try clear hb); (try clear hb2); (try clear hk); (try clear hi); (try clear ho0); obtain ⟨Ao34, co34, eo34⟩ := Kd.R_slice HO226.out; subst eo34))
                  go_loopg [10] k2 (fun kq v10 w' => ∃ (x10_3 : Int), v10 = .int .i64 x10_3 ∧ Aside0 (interlocutorlaw6_LexEnds.l2 kq (x5_6.length : Int) t224 x10_3 = some r) ∧ Aside0 (kq ≤ k2) ∧ Aside0 (Kd.R Kd.bool 4 w' w.heap.size (fun _ => True) (.slice Ao34 t224.length co34) t224) ∧ Aside0 (Below w.heap.size w w'))
                  case atStart => exact ⟨(0), (by first | rfl | (simp; done) | (simp [*]; done)), H', ⟨Nat.le_refl _⟩, ⟨by (with_reducible repeat (first | apply Kd.R_alloc | apply Kd.R_drewN | apply Kd.R_drew)); exact HO226.out⟩, ⟨by repeat (first | (with_reducible first | exact HB.out | apply below_alloc | apply pw_below_drewN | apply below_drew1) | exact HB.out)⟩⟩
                  case round =>
                    clear H'
                    try clear c1
                    try clear q1
                    try clear c2
                    try clear p2
                    try clear q2
                    try clear hx2
                    try clear c3
                    try clear c4
                    try clear p6
                    try clear c11
                    try clear c11b0
                    try clear c11b1
                    try clear c13
                    try clear c13b0
                    try clear c14
                    try clear c14b0
                    try clear c15
                    try clear c15b0
                    try clear c15b1
                    try clear c16
                    try clear c16b0
                    try clear c16b1
                    try clear c17
                    try clear q18
                    try clear c19
                    try clear c21
                    try clear p21
                    try clear q21
                    try clear hx21
                    try clear c22
                    try clear c27
                    try clear c27b0
                    try clear c28
                    try clear c31
                    try clear c31b0
                    try clear c31b1
                    try clear hx210_0
                    try clear p2
                    try clear p21
                    try clear p210
                    try clear p6
                    try clear q1
                    try clear q18
                    try clear q2
                    try clear q21
                    try clear q210
                    obtain ⟨x10_3, rfl, HA, HK3, HO_9, HB⟩ := hrel
                    cases gk with
                    | zero => exact absurd HA.out (by simp [interlocutorlaw6_LexEnds.l2])
                    | succ k3 =>
                      have H := HA.out
                      clear HA
                      simp only [interlocutorlaw6_LexEnds.l2] at H
                      by_cases c35 : x10_3 < (t224.length : Int)
                      · rw [if_pos c35] at H
                        have c35b0 : decide (x10_3 < (t224.length : Int)) = true := decide_eq_true c35
                        clear c35
                        by_cases c36 : 0 ≤ x10_3
                        · rw [if_pos c36] at H
                          have c36b0 : decide (0 ≤ x10_3) = true := decide_eq_true c36
                          clear c36
                          by_cases c37 : ((rdOf false t224 x10_3) != (decide (x10_3 ≥ (x5_6.length : Int)))) = true
                          · rw [if_pos c37] at H
                            have c37b0 : ((rdOf false t224 x10_3) != (decide (x10_3 ≥ (x5_6.length : Int)))) = true := c37
                            (try (have c37b1 : decide ((rdOf false t224 x10_3) = (decide (x10_3 ≥ (x5_6.length : Int)))) = false := by simpa using c37))
                            (try (have c37b2 : ((rdOf false t224 x10_3) == (decide (x10_3 ≥ (x5_6.length : Int)))) = false := by simpa using c37))
                            (try (have c37b3 : ¬ ((rdOf false t224 x10_3) = (decide (x10_3 ≥ (x5_6.length : Int)))) := by simpa using c37))
                            clear c37
                            obtain rfl := Option.some.inj H
                            have p227 : 0 ≤ (x10_3 : Int) := of_decide_eq_true (by first | (with_reducible assumption) | assumption)
                            have q227 : x10_3 < (t224.length : Int) := of_decide_eq_true (by first | (with_reducible assumption) | assumption)
                            obtain ⟨ad227, e227, hx227_0⟩ := Kd.at_bool (Kd.R_reads' HO_9.out).2.2 x10_3 p227 q227
                            cases e227
                            replace p227 := eq_true p227
                            replace q227 := eq_true q227
                            go_wp2
                            go_ret
                            exact ⟨by first | rfl | (simp [errW_none, errW_some] <;> rfl) | (simp [*, errW_none, errW_some] <;> rfl), by repeat (first | (with_reducible first | exact HB.out | apply below_alloc | apply pw_below_drewN | apply below_drew1) | exact HB.out)⟩
                          · rw [if_neg c37] at H
                            have c37b0 : ((rdOf false t224 x10_3) != (decide (x10_3 ≥ (x5_6.length : Int)))) = false := by simpa using c37
                            (try (have c37b1 : decide ((rdOf false t224 x10_3) = (decide (x10_3 ≥ (x5_6.length : Int)))) = true := by simpa using c37))
                            (try (have c37b2 : ((rdOf false t224 x10_3) == (decide (x10_3 ≥ (x5_6.length : Int)))) = true := by simpa using c37))
                            clear c37
                            have H' := Aside0.mk H
                            clear H
                            have p227 : 0 ≤ (x10_3 : Int) := of_decide_eq_true (by first | (with_reducible assumption) | assumption)
                            have q227 : x10_3 < (t224.length : Int) := of_decide_eq_true (by first | (with_reducible assumption) | assumption)
                            obtain ⟨ad227, e227, hx227_0⟩ := Kd.at_bool (Kd.R_reads' HO_9.out).2.2 x10_3 p227 q227
                            cases e227
                            replace p227 := eq_true p227
                            replace q227 := eq_true q227
                            go_wp2
                            go_roundg k3
                            case measure => have := HJ6.out; have := HK2.out; have := HK3.out; omega
                            case rel => exact ⟨(wrap64 (x10_3 + 1)), (by first | rfl | (simp; done) | (simp [*]; done)), H', ⟨by have := HJ6.out; have := HK2.out; have := HK3.out; omega⟩, ⟨by (with_reducible repeat (first | apply Kd.R_alloc | apply Kd.R_drewN | apply Kd.R_drew)); exact HO_9.out⟩, ⟨by repeat (first | (with_reducible first | exact HB.out | apply below_alloc | apply pw_below_drewN | apply below_drew1) | exact HB.out)⟩⟩
                        · rw [if_neg c36] at H
                          exact absurd H (by simp)
                      · rw [if_neg c35] at H
                        have c35b0 : decide (x10_3 < (t224.length : Int)) = false := decide_eq_false c35
                        clear c35
                        obtain rfl := Option.some.inj H
                        go_wp2
                        go_ret
                        exact ⟨by first | rfl | (simp [errW_none, errW_some] <;> rfl) | (simp [*, errW_none, errW_some] <;> rfl), by repeat (first | (with_reducible first | exact HB.out | apply below_alloc | apply pw_below_drewN | apply below_drew1) | exact HB.out)⟩
                · rw [if_neg c31] at H
                  have c31b0 : ((t224.length : Int) == (wrap64 ((x5_2.length : Int) + 1))) = false := beq_eq_false_iff_ne.mpr c31
                  have c31b1 : ((t224.length : Int) != (wrap64 ((x5_2.length : Int) + 1))) = true := bne_iff_ne.mpr c31
                  obtain rfl := Option.some.inj H
                  go_wp2_with (first | ((with_reducible refine gate_callee (f := 27) rfl ?_); refine goesL_ (some 43) rfl rfl Try.func27 (by kernel_rfl) rfl #[.int .i64 a1, .int .i64 6] rfl (by (try simp only [List.map_toArray, List.map_cons, List.map_nil]); first | done | rfl | (simp only [List.length_drop, List.length_take]; rfl)) ?_; (with_reducible refine (interlocutorlaw6_within.calls a1 6 t220 _ A26.out).mono ?_); rintro e w' ⟨rfl, ⟨nd, rfl⟩⟩; refine ⟨_, rfl, ?_⟩; obtain ⟨Ao38, co38, eo38⟩ := Kd.R_slice HO_5.out; subst eo38) | ((with_reducible refine gate_callee (f := 22) rfl ?_); refine goesL_ (some 51) rfl rfl Try.func22 (by kernel_rfl) rfl #[.slice Ao38 x5_2.length co38] rfl (by (try simp only [List.map_toArray, List.map_cons, List.map_nil]); first | done | rfl | (simp only [List.length_drop, List.length_take]; rfl)) ?_; (with_reducible refine (lex_Ends.calls _ _ x5_2 t224 _ ?side1 ?side2 A30.out).mono ?_); (case side1 => repeat (first | exact (Kd.R_reads' HO_5.out).2.2 | (with_reducible refine Kd.C_alloc ?_ _) | (with_reducible refine Kd.C_drewN ?_ _) | (with_reducible refine Kd.C_drew ?_))); (case side2 => exact (Kd.R_reads' HO_5.out).2.1); rintro e w39 ⟨v225, rfl, ho0, hb⟩; refine ⟨_, rfl, ?_⟩; have n0_ := Aside0.mk (Kd.R_below (by (with_reducible repeat (first | apply Kd.R_alloc | apply Kd.R_drewN | apply Kd.R_drew)); exact HO_5.out) hb); have n1_ := Aside0.mk (Kd.R_lower ho0 (below_size (by repeat (first | (with_reducible first | exact HB.out | apply below_alloc | apply pw_below_drewN | apply below_drew1) | exact HB.out)))); have n2_ := Aside0.mk (below_step (by repeat (first | (with_reducible first | exact HB.out | apply below_alloc | apply pw_below_drewN | apply below_drew1) | exact HB.out)) hb); clear HO_5; clear HB; have HO_5 := n0_; have HO226 := n1_; have HB := n2_; clear n0_ n1_ n2_; (try clear hb); (try clear hb2); (try clear hk); (try clear hi); (try clear ho0); obtain ⟨Ao40, co40, eo40⟩ := Kd.R_slice HO226.out; subst eo40))
                  go_ret
                  exact ⟨by first | rfl | (simp [errW_none, errW_some] <;> rfl) | (simp [*, errW_none, errW_some] <;> rfl), by repeat (first | (with_reducible first | exact HB.out | apply below_alloc | apply pw_below_drewN | apply below_drew1) | exact HB.out)⟩
        · rw [if_neg c21] at H
          exact absurd H (by simp)
  · replace c4 := Bool.eq_false_iff.mpr c4
    subst c4
    have H1 : (some false) = some r := by rw [if_neg (show ¬ (false = true) by decide)] at H; exact H
    clear H
    have H := H1
    clear H1
    obtain rfl := Option.some.inj H
    go_enter Try.func11, Try.ntmps11
    go_wp2_with (first | ((with_reducible refine gate_callee (f := 14) rfl ?_); refine goesL_ (some 11) rfl rfl Try.func14 (by kernel_rfl) rfl #[] rfl (by (try simp only [List.map_toArray, List.map_cons, List.map_nil]); first | done | rfl | (simp only [List.length_drop, List.length_take]; rfl)) ?_; (with_reducible refine (interlocutorlaw6_known.calls k  false _ A3.out).mono ?_); rintro e w41 ⟨rfl, hb⟩; refine ⟨_, rfl, ?_⟩; have n0_ := Aside0.mk (below_step (by repeat (first | (with_reducible first | exact HB.out | apply below_alloc | apply pw_below_drewN | apply below_drew1) | exact HB.out)) hb); clear HB; have HB := n0_; clear n0_; (try clear hb); (try clear hb2); (try clear hk); (try clear hi)))
    go_ret
    exact ⟨by first | rfl | (simp [errW_none, errW_some] <;> rfl) | (simp [*, errW_none, errW_some] <;> rfl), by repeat (first | (with_reducible first | exact HB.out | apply below_alloc | apply pw_below_drewN | apply below_drew1) | exact HB.out)⟩

/-- THE ONE PURE STATEMENT of interlocutorlaw6_LexEnds: yours. -/
def interlocutorlaw6_LexEnds.Pure : Prop := ∀ (l0 : List Int) (a1 : Int), l0.length ≤ maxLen → l0.length * 8 ≤ 140737488351232 → (∀ x ∈ l0, (Lit.int .i64 x).wf = true) → (Lit.int .i64 a1).wf = true → ∃ k, interlocutorlaw6_LexEnds.f k l0 a1 = some true
theorem interlocutorlaw6_LexEnds.walk (P : interlocutorlaw6_LexEnds.Pure) (a0 : Option Addr) (len0 cap0 : Nat) (z0 : List Int) (a1 : Int) (w : World) (w0 : (a0 = none ∧ len0 = 0 ∧ cap0 = 0 ∧ z0 = []) ∨ ∃ x, a0 = some x ∧ len0 ≤ cap0 ∧ cap0 ≤ maxLen ∧ z0.length = cap0 ∧ (∀ i, i < z0.length → w.cell? (x.add i) = some (.int .i64 (z0.getD i 0))) ∧ ∀ n ∈ z0, (Lit.int .i64 n).wf = true) (y0 : len0 * 8 ≤ 140737488351232) (w1 : (Lit.int .i64 a1).wf = true) :
    Calls Try.prog 11 #[.slice a0 len0 cap0, .int .i64 a1] w fun e w' => e = .returned (.bool true) ∧ Below w.heap.size w w' := by
  obtain ⟨l0, rfl, hr0, hm0, hw0, hc0⟩ := ReadsInt.ofRowC w0
  obtain ⟨k, h⟩ := P l0 a1 hm0 y0 hw0 w1
  refine (interlocutorlaw6_LexEnds.calls k _ _ l0 a1 true w (Kd.C_of_reads (d := (0 : Int)) (h1 := fun _ => rfl) hr0) hc0 h).mono ?_
  rintro e w' ⟨rfl, hd⟩
  exact ⟨rfl, hd⟩

end Go.Proofs.Ytgbnfjhmobeloaa.G
