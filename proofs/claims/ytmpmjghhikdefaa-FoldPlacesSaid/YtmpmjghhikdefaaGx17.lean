-- printed by wip/tool/gprint.py, a program of this work, out of the translation; Lean checks it
import Derived.Test.YtmpmjghhikdefaaGx0
import Derived.Test.YtmpmjghhikdefaaGx3
import Derived.Test.YtmpmjghhikdefaaGx6
import Derived.Test.YtmpmjghhikdefaaGx7
namespace Go.Proofs.Ytmpmjghhikdefaa.G
open Go.RowKit Go.Proofs.YtmpmjghhikdefaaW.PrintWords Go.Proofs.YtmpmjghhikdefaaW.PrintLast Go.Proofs.YtmpmjghhikdefaaW.PrintMore Go.Proofs.YtmpmjghhikdefaaW.VWords
attribute [local go_sem] max2_int min2_int max_two min_two max_three min_three max_four min_four   -- for this text's walks alone
set_option linter.unusedVariables false
set_option linter.unusedSimpArgs false

/-! ### interlocutorlaw3_FoldPlaces: function 6 -/
mutual
def interlocutorlaw3_FoldPlaces.j0 : Nat → List Int → List Int → Bool → Option (Bool)
  | 0, _, _, _ => none
  | k + 1, x6, x7, x43 => if x43 = true then (some false) else (interlocutorlaw3_FoldPlaces.l0 k x6 x7 0)
def interlocutorlaw3_FoldPlaces.l0 : Nat → List Int → List Int → Int → Option (Bool)
  | 0, _, _, _ => none
  | k + 1, x6, x7, x8 => if x8 < (x6.length : Int) then (if 0 ≤ (wrap64 (x8 + 1)) then (if (wrap64 (x8 + 1)) < (x7.length : Int) then (if 0 ≤ x8 then (if x8 < (x7.length : Int) then (if (rd x7 (wrap64 (x8 + 1))) ≤ (rd x7 x8) then (some false) else (if (rd x7 (wrap64 (x8 + 1))) > (wrap64 ((rd x7 x8) + 4)) then (some false) else (interlocutorlaw3_FoldPlaces.l0 k x6 x7 (wrap64 (x8 + 1))))) else (none)) else (none)) else (none)) else (none)) else (some true)
end
def interlocutorlaw3_FoldPlaces.f (k : Nat) (l0 : List Int) (l1 : List Int) : Option (Bool) := (interlocutorlaw3_known.f k).bind fun t294 => (if t294 = true then (if (l1.length : Int) > 60 then (some true) else ((interlocutorlaw3_Signs.f k l0 l1).bind fun t295 => ((fold_Fold.f t295).bind fun bt296 => (if (bt296.2.length : Int) = (wrap64 ((bt296.1.length : Int) + 1)) then (if 0 < (bt296.2.length : Int) then (if (rd bt296.2 0) = 0 then (if 0 ≤ (bt296.1.length : Int) then (if (bt296.1.length : Int) < (bt296.2.length : Int) then (interlocutorlaw3_FoldPlaces.j0 k bt296.1 bt296.2 ((rd bt296.2 (bt296.1.length : Int)) != (t295.size : Int))) else (none)) else (none)) else (interlocutorlaw3_FoldPlaces.j0 k bt296.1 bt296.2 true)) else (none)) else (interlocutorlaw3_FoldPlaces.j0 k bt296.1 bt296.2 true))))) else (some false))
theorem interlocutorlaw3_FoldPlaces.mono_l : ∀ k, (∀ y0 y1 y2, LeO (interlocutorlaw3_FoldPlaces.j0 k y0 y1 y2) (interlocutorlaw3_FoldPlaces.j0 (k + 1) y0 y1 y2)) ∧ (∀ y0 y1 y2, LeO (interlocutorlaw3_FoldPlaces.l0 k y0 y1 y2) (interlocutorlaw3_FoldPlaces.l0 (k + 1) y0 y1 y2))
  | 0 => ⟨fun _ _ _ r h => by simp [interlocutorlaw3_FoldPlaces.j0] at h, fun _ _ _ r h => by simp [interlocutorlaw3_FoldPlaces.l0] at h⟩
  | k + 1 => by
    obtain ⟨ih0, ih1⟩ := interlocutorlaw3_FoldPlaces.mono_l k
    refine ⟨?_, ?_⟩
    · intro y0 y1 y2
      unfold interlocutorlaw3_FoldPlaces.j0
      repeat' first
      | (with_reducible exact ih0 _ _ _)
      | (with_reducible exact ih1 _ _ _)
      | (with_reducible exact interlocutorlaw3_Signs.mono _ _ _)
      | (with_reducible exact interlocutorlaw3_known.mono _)
      | (with_reducible exact LeO.refl _)
      | (with_reducible exact LeO.none _)
      | (with_reducible refine LeO.ite ?_ ?_)
      | (with_reducible refine LeO.bind ?_ (fun _ => ?_))
      | exact ih0 _ _ _
      | exact ih1 _ _ _
      | exact interlocutorlaw3_Signs.mono _ _ _
      | exact interlocutorlaw3_known.mono _
      | exact LeO.none _
      | refine LeO.ite ?_ ?_
      | refine LeO.bind ?_ (fun _ => ?_)
    · intro y0 y1 y2
      unfold interlocutorlaw3_FoldPlaces.l0
      repeat' first
      | (with_reducible exact ih0 _ _ _)
      | (with_reducible exact ih1 _ _ _)
      | (with_reducible exact interlocutorlaw3_Signs.mono _ _ _)
      | (with_reducible exact interlocutorlaw3_known.mono _)
      | (with_reducible exact LeO.refl _)
      | (with_reducible exact LeO.none _)
      | (with_reducible refine LeO.ite ?_ ?_)
      | (with_reducible refine LeO.bind ?_ (fun _ => ?_))
      | exact ih0 _ _ _
      | exact ih1 _ _ _
      | exact interlocutorlaw3_Signs.mono _ _ _
      | exact interlocutorlaw3_known.mono _
      | exact LeO.none _
      | refine LeO.ite ?_ ?_
      | refine LeO.bind ?_ (fun _ => ?_)
theorem interlocutorlaw3_FoldPlaces.mono : ∀ a0 a1 k, LeO (interlocutorlaw3_FoldPlaces.f k a0 a1) (interlocutorlaw3_FoldPlaces.f (k + 1) a0 a1) := by
  intro a0 a1 k
  obtain ⟨ih0, ih1⟩ := interlocutorlaw3_FoldPlaces.mono_l k
  unfold interlocutorlaw3_FoldPlaces.f
  repeat' first
      | (with_reducible exact ih0 _ _ _)
      | (with_reducible exact ih1 _ _ _)
      | (with_reducible exact interlocutorlaw3_Signs.mono _ _ _)
      | (with_reducible exact interlocutorlaw3_known.mono _)
      | (with_reducible exact LeO.refl _)
      | (with_reducible exact LeO.none _)
      | (with_reducible refine LeO.ite ?_ ?_)
      | (with_reducible refine LeO.bind ?_ (fun _ => ?_))
      | exact ih0 _ _ _
      | exact ih1 _ _ _
      | exact interlocutorlaw3_Signs.mono _ _ _
      | exact interlocutorlaw3_known.mono _
      | exact LeO.none _
      | refine LeO.ite ?_ ?_
      | refine LeO.bind ?_ (fun _ => ?_)
set_option maxHeartbeats 8000000 in
set_option maxRecDepth 100000 in
theorem interlocutorlaw3_FoldPlaces.calls (k : Nat) (A0 : Option Addr) (c0 : Nat) (l0 : List Int) (A1 : Option Addr) (c1 : Nat) (l1 : List Int) (r : Bool) (w : World) (hr0 : Kd.C (Kd.int .i64) w A0 l0.length l0) (hc0 : l0.length ≤ c0) (hr1 : Kd.C (Kd.int .u8) w A1 l1.length l1) (hc1 : l1.length ≤ c1) (h : interlocutorlaw3_FoldPlaces.f k l0 l1 = some r) :
    Calls Try.prog 6 #[.slice A0 l0.length c0, .slice A1 l1.length c1] w fun e w' => e = .returned (.bool r) ∧ Below w.heap.size w w' := by
  have HR0 := Aside0.mk hr0
  have HC0 := Aside0.mk hc0
  clear hr0 hc0
  have HR1 := Aside0.mk hr1
  have HC1 := Aside0.mk hc1
  clear hr1 hc1
  have HB := Aside0.mk (Below.refl w.heap.size w)
  have H : ((interlocutorlaw3_known.f k).bind fun t294 => (if t294 = true then (if (l1.length : Int) > 60 then (some true) else ((interlocutorlaw3_Signs.f k l0 l1).bind fun t295 => ((fold_Fold.f t295).bind fun bt296 => (if (bt296.2.length : Int) = (wrap64 ((bt296.1.length : Int) + 1)) then (if 0 < (bt296.2.length : Int) then (if (rd bt296.2 0) = 0 then (if 0 ≤ (bt296.1.length : Int) then (if (bt296.1.length : Int) < (bt296.2.length : Int) then (interlocutorlaw3_FoldPlaces.j0 k bt296.1 bt296.2 ((rd bt296.2 (bt296.1.length : Int)) != (t295.size : Int))) else (none)) else (none)) else (interlocutorlaw3_FoldPlaces.j0 k bt296.1 bt296.2 true)) else (none)) else (interlocutorlaw3_FoldPlaces.j0 k bt296.1 bt296.2 true))))) else (some false))) = some r := h
  clear h
  replace H := Option.bind_eq_some_iff.mp H
  obtain ⟨t294, A30, H⟩ := H
  replace H : (if t294 = true then (if (l1.length : Int) > 60 then (some true) else ((interlocutorlaw3_Signs.f k l0 l1).bind fun t295 => ((fold_Fold.f t295).bind fun bt296 => (if (bt296.2.length : Int) = (wrap64 ((bt296.1.length : Int) + 1)) then (if 0 < (bt296.2.length : Int) then (if (rd bt296.2 0) = 0 then (if 0 ≤ (bt296.1.length : Int) then (if (bt296.1.length : Int) < (bt296.2.length : Int) then (interlocutorlaw3_FoldPlaces.j0 k bt296.1 bt296.2 ((rd bt296.2 (bt296.1.length : Int)) != (t295.size : Int))) else (none)) else (none)) else (interlocutorlaw3_FoldPlaces.j0 k bt296.1 bt296.2 true)) else (none)) else (interlocutorlaw3_FoldPlaces.j0 k bt296.1 bt296.2 true))))) else (some false)) = some r := H
  have A3 := Aside0.mk A30
  clear A30
  by_cases c4 : t294 = true
  · subst c4
    have H1 : (if (l1.length : Int) > 60 then (some true) else ((interlocutorlaw3_Signs.f k l0 l1).bind fun t295 => ((fold_Fold.f t295).bind fun bt296 => (if (bt296.2.length : Int) = (wrap64 ((bt296.1.length : Int) + 1)) then (if 0 < (bt296.2.length : Int) then (if (rd bt296.2 0) = 0 then (if 0 ≤ (bt296.1.length : Int) then (if (bt296.1.length : Int) < (bt296.2.length : Int) then (interlocutorlaw3_FoldPlaces.j0 k bt296.1 bt296.2 ((rd bt296.2 (bt296.1.length : Int)) != (t295.size : Int))) else (none)) else (none)) else (interlocutorlaw3_FoldPlaces.j0 k bt296.1 bt296.2 true)) else (none)) else (interlocutorlaw3_FoldPlaces.j0 k bt296.1 bt296.2 true))))) = some r := by rw [if_pos rfl] at H; exact H
    clear H
    have H := H1
    clear H1
    by_cases c5 : (l1.length : Int) > 60
    · rw [if_pos c5] at H
      have c5b0 : decide (60 < (l1.length : Int)) = true := decide_eq_true c5
      have c5b1 : decide (60 < l1.length) = true := decide_eq_true (by omega)
      clear c5
      obtain rfl := Option.some.inj H
      go_enter Try.func6, Try.ntmps6
      go_wp2_with (first | (go_at_call 14; (with_reducible refine (interlocutorlaw3_known.calls k  true _ A3.out).mono ?_); rintro e w6 ⟨rfl, hb⟩; have n0_ := Aside0.mk (below_step (by repeat (first | (with_reducible first | exact HB.out | apply below_alloc | apply pw_below_drewN | apply below_drew1) | exact HB.out)) hb); clear HB; have HB := n0_; clear n0_; (try clear hb); (try clear hb2); (try clear hk); (try clear hi)))
      repeat (go_quiet (first | (go_at_call 14; (with_reducible refine (interlocutorlaw3_known.calls k  true _ A3.out).mono ?_); rintro e w6 ⟨rfl, hb⟩; have n0_ := Aside0.mk (below_step (by repeat (first | (with_reducible first | exact HB.out | apply below_alloc | apply pw_below_drewN | apply below_drew1) | exact HB.out)) hb); clear HB; have HB := n0_; clear n0_; (try clear hb); (try clear hb2); (try clear hk); (try clear hi))); try go_wp2_with (first | (go_at_call 14; (with_reducible refine (interlocutorlaw3_known.calls k  true _ A3.out).mono ?_); rintro e w6 ⟨rfl, hb⟩; have n0_ := Aside0.mk (below_step (by repeat (first | (with_reducible first | exact HB.out | apply below_alloc | apply pw_below_drewN | apply below_drew1) | exact HB.out)) hb); clear HB; have HB := n0_; clear n0_; (try clear hb); (try clear hb2); (try clear hk); (try clear hi))))
      go_ret
      exact ⟨by first | rfl | (simp [errW_none, errW_some] <;> rfl) | (simp [*, errW_none, errW_some] <;> rfl), by repeat (first | (with_reducible first | exact HB.out | apply below_alloc | apply pw_below_drewN | apply below_drew1) | exact HB.out)⟩
    · rw [if_neg c5] at H
      have c5b0 : decide (60 < (l1.length : Int)) = false := decide_eq_false c5
      have c5b1 : decide (60 < l1.length) = false := decide_eq_false (by omega)
      clear c5
      replace H := Option.bind_eq_some_iff.mp H
      obtain ⟨t295, A70, H⟩ := H
      replace H : ((fold_Fold.f t295).bind fun bt296 => (if (bt296.2.length : Int) = (wrap64 ((bt296.1.length : Int) + 1)) then (if 0 < (bt296.2.length : Int) then (if (rd bt296.2 0) = 0 then (if 0 ≤ (bt296.1.length : Int) then (if (bt296.1.length : Int) < (bt296.2.length : Int) then (interlocutorlaw3_FoldPlaces.j0 k bt296.1 bt296.2 ((rd bt296.2 (bt296.1.length : Int)) != (t295.size : Int))) else (none)) else (none)) else (interlocutorlaw3_FoldPlaces.j0 k bt296.1 bt296.2 true)) else (none)) else (interlocutorlaw3_FoldPlaces.j0 k bt296.1 bt296.2 true))) = some r := H
      have A7 := Aside0.mk A70
      clear A70
      replace H := Option.bind_eq_some_iff.mp H
      obtain ⟨⟨t296, t297⟩, A80, H⟩ := H
      replace H : (if (t297.length : Int) = (wrap64 ((t296.length : Int) + 1)) then (if 0 < (t297.length : Int) then (if (rd t297 0) = 0 then (if 0 ≤ (t296.length : Int) then (if (t296.length : Int) < (t297.length : Int) then (interlocutorlaw3_FoldPlaces.j0 k t296 t297 ((rd t297 (t296.length : Int)) != (t295.size : Int))) else (none)) else (none)) else (interlocutorlaw3_FoldPlaces.j0 k t296 t297 true)) else (none)) else (interlocutorlaw3_FoldPlaces.j0 k t296 t297 true)) = some r := H
      have A8 := Aside0.mk A80
      clear A80
      have HC9 := Aside0.mk H
      clear H
      go_enter Try.func6, Try.ntmps6
      go_upto_region 7 with (first | (go_at_call 14; (with_reducible refine (interlocutorlaw3_known.calls k  true _ A3.out).mono ?_); rintro e w10 ⟨rfl, hb⟩; have n0_ := Aside0.mk (below_step (by repeat (first | (with_reducible first | exact HB.out | apply below_alloc | apply pw_below_drewN | apply below_drew1) | exact HB.out)) hb); clear HB; have HB := n0_; clear n0_; (try clear hb); (try clear hb2); (try clear hk); (try clear hi)) | (go_at_call 15; (with_reducible refine (interlocutorlaw3_Signs.calls k _ _ l0 _ _ l1 t295 _ ?side1 ?side2 ?side3 ?side4 A7.out).mono ?_); (case side1 => repeat (first | exact (Kd.C_below HR0.out HB.out) | (with_reducible refine Kd.C_alloc ?_ _) | (with_reducible refine Kd.C_drewN ?_ _) | (with_reducible refine Kd.C_drew ?_))); (case side2 => exact HC0.out); (case side3 => repeat (first | exact (Kd.C_below HR1.out HB.out) | (with_reducible refine Kd.C_alloc ?_ _) | (with_reducible refine Kd.C_drewN ?_ _) | (with_reducible refine Kd.C_drew ?_))); (case side4 => exact HC1.out); rintro e w11 ⟨rfl, hb⟩; have n0_ := Aside0.mk (below_step (by repeat (first | (with_reducible first | exact HB.out | apply below_alloc | apply pw_below_drewN | apply below_drew1) | exact HB.out)) hb); clear HB; have HB := n0_; clear n0_; (try clear hb); (try clear hb2); (try clear hk); (try clear hi)) | (go_at_call 16; (with_reducible refine (fold_Fold.calls t295 t296 t297 _ A8.out).mono ?_); rintro e w12 ⟨v298, v300, rfl, ho0, ho1, hb⟩; have n0_ := Aside0.mk (Kd.R_lower ho0 (below_size (by repeat (first | (with_reducible first | exact HB.out | apply below_alloc | apply pw_below_drewN | apply below_drew1) | exact HB.out)))); have n1_ := Aside0.mk (Kd.R_lower ho1 (below_size (by repeat (first | (with_reducible first | exact HB.out | apply below_alloc | apply pw_below_drewN | apply below_drew1) | exact HB.out)))); have n2_ := Aside0.mk (below_step (by repeat (first | (with_reducible first | exact HB.out | apply below_alloc | apply pw_below_drewN | apply below_drew1) | exact HB.out)) hb); clear HB; have HO299 := n0_; have HO301 := n1_; have HB := n2_; clear n0_ n1_ n2_; (try clear hb); (try clear hb2); (try clear hk); (try clear hi); (try clear ho0); (try clear ho1)))
      repeat (go_quiet (first | (go_at_call 14; (with_reducible refine (interlocutorlaw3_known.calls k  true _ A3.out).mono ?_); rintro e w10 ⟨rfl, hb⟩; have n0_ := Aside0.mk (below_step (by repeat (first | (with_reducible first | exact HB.out | apply below_alloc | apply pw_below_drewN | apply below_drew1) | exact HB.out)) hb); clear HB; have HB := n0_; clear n0_; (try clear hb); (try clear hb2); (try clear hk); (try clear hi)) | (go_at_call 15; (with_reducible refine (interlocutorlaw3_Signs.calls k _ _ l0 _ _ l1 t295 _ ?side1 ?side2 ?side3 ?side4 A7.out).mono ?_); (case side1 => repeat (first | exact (Kd.C_below HR0.out HB.out) | (with_reducible refine Kd.C_alloc ?_ _) | (with_reducible refine Kd.C_drewN ?_ _) | (with_reducible refine Kd.C_drew ?_))); (case side2 => exact HC0.out); (case side3 => repeat (first | exact (Kd.C_below HR1.out HB.out) | (with_reducible refine Kd.C_alloc ?_ _) | (with_reducible refine Kd.C_drewN ?_ _) | (with_reducible refine Kd.C_drew ?_))); (case side4 => exact HC1.out); rintro e w11 ⟨rfl, hb⟩; have n0_ := Aside0.mk (below_step (by repeat (first | (with_reducible first | exact HB.out | apply below_alloc | apply pw_below_drewN | apply below_drew1) | exact HB.out)) hb); clear HB; have HB := n0_; clear n0_; (try clear hb); (try clear hb2); (try clear hk); (try clear hi)) | (go_at_call 16; (with_reducible refine (fold_Fold.calls t295 t296 t297 _ A8.out).mono ?_); rintro e w12 ⟨v298, v300, rfl, ho0, ho1, hb⟩; have n0_ := Aside0.mk (Kd.R_lower ho0 (below_size (by repeat (first | (with_reducible first | exact HB.out | apply below_alloc | apply pw_below_drewN | apply below_drew1) | exact HB.out)))); have n1_ := Aside0.mk (Kd.R_lower ho1 (below_size (by repeat (first | (with_reducible first | exact HB.out | apply below_alloc | apply pw_below_drewN | apply below_drew1) | exact HB.out)))); have n2_ := Aside0.mk (below_step (by repeat (first | (with_reducible first | exact HB.out | apply below_alloc | apply pw_below_drewN | apply below_drew1) | exact HB.out)) hb); clear HB; have HO299 := n0_; have HO301 := n1_; have HB := n2_; clear n0_ n1_ n2_; (try clear hb); (try clear hb2); (try clear hk); (try clear hi); (try clear ho0); (try clear ho1))); go_upto_region 7 with (first | (go_at_call 14; (with_reducible refine (interlocutorlaw3_known.calls k  true _ A3.out).mono ?_); rintro e w10 ⟨rfl, hb⟩; have n0_ := Aside0.mk (below_step (by repeat (first | (with_reducible first | exact HB.out | apply below_alloc | apply pw_below_drewN | apply below_drew1) | exact HB.out)) hb); clear HB; have HB := n0_; clear n0_; (try clear hb); (try clear hb2); (try clear hk); (try clear hi)) | (go_at_call 15; (with_reducible refine (interlocutorlaw3_Signs.calls k _ _ l0 _ _ l1 t295 _ ?side1 ?side2 ?side3 ?side4 A7.out).mono ?_); (case side1 => repeat (first | exact (Kd.C_below HR0.out HB.out) | (with_reducible refine Kd.C_alloc ?_ _) | (with_reducible refine Kd.C_drewN ?_ _) | (with_reducible refine Kd.C_drew ?_))); (case side2 => exact HC0.out); (case side3 => repeat (first | exact (Kd.C_below HR1.out HB.out) | (with_reducible refine Kd.C_alloc ?_ _) | (with_reducible refine Kd.C_drewN ?_ _) | (with_reducible refine Kd.C_drew ?_))); (case side4 => exact HC1.out); rintro e w11 ⟨rfl, hb⟩; have n0_ := Aside0.mk (below_step (by repeat (first | (with_reducible first | exact HB.out | apply below_alloc | apply pw_below_drewN | apply below_drew1) | exact HB.out)) hb); clear HB; have HB := n0_; clear n0_; (try clear hb); (try clear hb2); (try clear hk); (try clear hi)) | (go_at_call 16; (with_reducible refine (fold_Fold.calls t295 t296 t297 _ A8.out).mono ?_); rintro e w12 ⟨v298, v300, rfl, ho0, ho1, hb⟩; have n0_ := Aside0.mk (Kd.R_lower ho0 (below_size (by repeat (first | (with_reducible first | exact HB.out | apply below_alloc | apply pw_below_drewN | apply below_drew1) | exact HB.out)))); have n1_ := Aside0.mk (Kd.R_lower ho1 (below_size (by repeat (first | (with_reducible first | exact HB.out | apply below_alloc | apply pw_below_drewN | apply below_drew1) | exact HB.out)))); have n2_ := Aside0.mk (below_step (by repeat (first | (with_reducible first | exact HB.out | apply below_alloc | apply pw_below_drewN | apply below_drew1) | exact HB.out)) hb); clear HB; have HO299 := n0_; have HO301 := n1_; have HB := n2_; clear n0_ n1_ n2_; (try clear hb); (try clear hb2); (try clear hk); (try clear hi); (try clear ho0); (try clear ho1))))
      (try simp only [Act.put, List.setIfInBounds_toArray, List.set_cons_zero, List.set_cons_succ])
      go_cut [43] (fun v43 wc => ∃ (kq : Nat) (x43_8 : Bool), v43 = .bool x43_8 ∧ Aside0 (interlocutorlaw3_FoldPlaces.j0 kq t296 t297 x43_8 = some r) ∧ Aside0 (kq ≤ k) ∧ Aside0 (Kd.R (Kd.int .i64) 3 wc w.heap.size (fun k_ => some k_ ≠ (v300 : Value).ownBlock) v298 t296) ∧ Aside0 (Kd.R (Kd.int .i64) 3 wc w.heap.size (fun k_ => some k_ ≠ (v298 : Value).ownBlock) v300 t297) ∧ Aside0 (Below w.heap.size w wc))
      case first =>
        have H := HC9.out
        clear HC9
        by_cases c13 : (t297.length : Int) = (wrap64 ((t296.length : Int) + 1))
        · rw [if_pos c13] at H
          have c13b0 : ((t297.length : Int) == (wrap64 ((t296.length : Int) + 1))) = true := beq_iff_eq.mpr c13
          have c13b1 : ((t297.length : Int) != (wrap64 ((t296.length : Int) + 1))) = false := bne_eq_false_iff_eq.mpr c13
          clear c13
          (first | rw [c13b0] | (simp only [i64_w, i32_w]; rw [c13b0]) | skip)
          by_cases c14 : 0 < (t297.length : Int)
          · rw [if_pos c14] at H
            have c14b0 : decide (0 < (t297.length : Int)) = true := decide_eq_true c14
            have c14b1 : decide (0 < t297.length) = true := decide_eq_true (by omega)
            clear c14
            by_cases c15 : (rd t297 0) = 0
            · rw [if_pos c15] at H
              have c15b0 : ((rd t297 0) == 0) = true := beq_iff_eq.mpr c15
              have c15b1 : ((rd t297 0) != 0) = false := bne_eq_false_iff_eq.mpr c15
              clear c15
              by_cases c16 : 0 ≤ (t296.length : Int)
              · rw [if_pos c16] at H
                have c16b0 : decide (0 ≤ (t296.length : Int)) = true := decide_eq_true c16
                have c16b1 : decide (0 ≤ t296.length) = true := decide_eq_true (by omega)
                clear c16
                by_cases c17 : (t296.length : Int) < (t297.length : Int)
                · rw [if_pos c17] at H
                  have c17b0 : decide ((t296.length : Int) < (t297.length : Int)) = true := decide_eq_true c17
                  have c17b1 : decide (t296.length < t297.length) = true := decide_eq_true (Int.ofNat_lt.mp c17)
                  clear c17
                  have H' := Aside0.mk H
                  clear H
                  obtain ⟨Ao18, co18, eo18⟩ := Kd.R_slice HO301.out
                  subst eo18
                  obtain ⟨Ao19, co19, eo19⟩ := Kd.R_slice HO299.out
                  subst eo19
                  have p302 : 0 ≤ (0 : Int) := (by omega)
                  have q302 : 0 < (t297.length : Int) := of_decide_eq_true (by first | (with_reducible assumption) | assumption)
                  obtain ⟨ad302, e302, hx302_0⟩ := Kd.at_int (Kd.R_reads' HO301.out).2.2 0 p302 q302
                  cases e302
                  have qi302 : (0 < t297.length) = True := eq_true (by omega)
                  (try rw [show ((0 : Int)).toNat = 0 from rfl] at hx302_0)
                  (try rw [Addr.add_zero'] at hx302_0)
                  replace p302 := eq_true p302
                  replace q302 := eq_true q302
                  have p303 : 0 ≤ ((t296.length : Int) : Int) := of_decide_eq_true (by first | (with_reducible assumption) | assumption)
                  have q303 : (t296.length : Int) < (t297.length : Int) := of_decide_eq_true (by first | (with_reducible assumption) | assumption)
                  obtain ⟨ad303, e303, hx303_0⟩ := Kd.at_int (Kd.R_reads' HO301.out).2.2 (t296.length : Int) p303 q303
                  obtain rfl : ad302 = ad303 := (by injection e303)
                  (try simp only [Go.IntWalk.toNatUp] at hx303_0)
                  replace p303 := eq_true p303
                  replace q303 := eq_true q303
                  go_wp2
                  repeat (go_quiet (fail); try go_wp2)
                  go_meet
                  case rel => exact ⟨_, (((rd t297 (t296.length : Int)) != (t295.size : Int))), (by first | rfl | (simp; done) | (simp [*]; done)), H', ⟨by first | omega | exact Nat.le_refl _⟩, ⟨by (with_reducible repeat (first | apply Kd.R_alloc | apply Kd.R_drewN | apply Kd.R_drew)); exact HO299.out⟩, ⟨by (with_reducible repeat (first | apply Kd.R_alloc | apply Kd.R_drewN | apply Kd.R_drew)); exact HO301.out⟩, ⟨by repeat (first | (with_reducible first | exact HB.out | apply below_alloc | apply pw_below_drewN | apply below_drew1) | exact HB.out)⟩⟩
                · rw [if_neg c17] at H
                  exact absurd H (by simp)
              · rw [if_neg c16] at H
                exact absurd H (by simp)
            · rw [if_neg c15] at H
              have c15b0 : ((rd t297 0) == 0) = false := beq_eq_false_iff_ne.mpr c15
              have c15b1 : ((rd t297 0) != 0) = true := bne_iff_ne.mpr c15
              have H' := Aside0.mk H
              clear H
              obtain ⟨Ao20, co20, eo20⟩ := Kd.R_slice HO301.out
              subst eo20
              obtain ⟨Ao21, co21, eo21⟩ := Kd.R_slice HO299.out
              subst eo21
              have p302 : 0 ≤ (0 : Int) := (by omega)
              have q302 : 0 < (t297.length : Int) := of_decide_eq_true (by first | (with_reducible assumption) | assumption)
              obtain ⟨ad302, e302, hx302_0⟩ := Kd.at_int (Kd.R_reads' HO301.out).2.2 0 p302 q302
              cases e302
              have qi302 : (0 < t297.length) = True := eq_true (by omega)
              (try rw [show ((0 : Int)).toNat = 0 from rfl] at hx302_0)
              (try rw [Addr.add_zero'] at hx302_0)
              replace p302 := eq_true p302
              replace q302 := eq_true q302
              go_wp2
              repeat (go_quiet (fail); try go_wp2)
              go_meet
              case rel => exact ⟨_, (true), (by first | rfl | (simp; done) | (simp [*]; done)), H', ⟨by first | omega | exact Nat.le_refl _⟩, ⟨by (with_reducible repeat (first | apply Kd.R_alloc | apply Kd.R_drewN | apply Kd.R_drew)); exact HO299.out⟩, ⟨by (with_reducible repeat (first | apply Kd.R_alloc | apply Kd.R_drewN | apply Kd.R_drew)); exact HO301.out⟩, ⟨by repeat (first | (with_reducible first | exact HB.out | apply below_alloc | apply pw_below_drewN | apply below_drew1) | exact HB.out)⟩⟩
          · rw [if_neg c14] at H
            exact absurd H (by simp)
        · rw [if_neg c13] at H
          have c13b0 : ((t297.length : Int) == (wrap64 ((t296.length : Int) + 1))) = false := beq_eq_false_iff_ne.mpr c13
          have c13b1 : ((t297.length : Int) != (wrap64 ((t296.length : Int) + 1))) = true := bne_iff_ne.mpr c13
          (first | rw [c13b0] | (simp only [i64_w, i32_w]; rw [c13b0]) | skip)
          have H' := Aside0.mk H
          clear H
          obtain ⟨Ao22, co22, eo22⟩ := Kd.R_slice HO301.out
          subst eo22
          obtain ⟨Ao23, co23, eo23⟩ := Kd.R_slice HO299.out
          subst eo23
          go_wp2
          repeat (go_quiet (fail); try go_wp2)
          go_meet
          case rel => exact ⟨_, (true), (by first | rfl | (simp; done) | (simp [*]; done)), H', ⟨by first | omega | exact Nat.le_refl _⟩, ⟨by (with_reducible repeat (first | apply Kd.R_alloc | apply Kd.R_drewN | apply Kd.R_drew)); exact HO299.out⟩, ⟨by (with_reducible repeat (first | apply Kd.R_alloc | apply Kd.R_drewN | apply Kd.R_drew)); exact HO301.out⟩, ⟨by repeat (first | (with_reducible first | exact HB.out | apply below_alloc | apply pw_below_drewN | apply below_drew1) | exact HB.out)⟩⟩
      case rest =>
        clear HC9
        try clear c1
        try clear p2
        try clear p3
        try clear q3
        try clear hx3
        try clear qi3
        try clear c4
        try clear c5
        try clear c5b0
        try clear c5b1
        try clear c6
        try clear p6
        try clear c13
        try clear c13b0
        try clear c13b1
        try clear c14
        try clear c14b0
        try clear c14b1
        try clear c15
        try clear c15b0
        try clear c15b1
        try clear c16
        try clear c16b0
        try clear c16b1
        try clear c17
        try clear c17b0
        try clear c17b1
        try clear hx302_0
        try clear hx303_0
        try clear p302
        try clear p303
        try clear q302
        try clear q303
        obtain ⟨kq, x43_8, rfl, HA, HJ8, HO_6, HO_7, HB⟩ := hcut
        cases kq with
        | zero => exact absurd HA.out (by simp [interlocutorlaw3_FoldPlaces.j0])
        | succ kj8 =>
          have H := HA.out
          clear HA
          simp only [interlocutorlaw3_FoldPlaces.j0] at H
          by_cases c24 : x43_8 = true
          · subst c24
            have H1 : (some false) = some r := by rw [if_pos rfl] at H; exact H
            clear H
            have H := H1
            clear H1
            obtain rfl := Option.some.inj H
            go_wp2
            repeat (go_quiet (fail); try go_wp2)
            go_ret
            exact ⟨by first | rfl | (simp [errW_none, errW_some] <;> rfl) | (simp [*, errW_none, errW_some] <;> rfl), by repeat (first | (with_reducible first | exact HB.out | apply below_alloc | apply pw_below_drewN | apply below_drew1) | exact HB.out)⟩
          · replace c24 := Bool.eq_false_iff.mpr c24
            subst c24
            have H1 : (interlocutorlaw3_FoldPlaces.l0 kj8 t296 t297 0) = some r := by rw [if_neg (show ¬ (false = true) by decide)] at H; exact H
            clear H
            have H := H1
            clear H1
            have H' := Aside0.mk H
            clear H
            go_wp2
            repeat (go_quiet (fail); try go_wp2)
            go_loopg [8] kj8 (fun kq v8 w' => ∃ (x8_2 : Int), v8 = .int .i64 x8_2 ∧ Aside0 (interlocutorlaw3_FoldPlaces.l0 kq t296 t297 x8_2 = some r) ∧ Aside0 (kq ≤ kj8) ∧ Aside0 (Kd.R (Kd.int .i64) 3 w' w.heap.size (fun k_ => some k_ ≠ (v300 : Value).ownBlock) v298 t296) ∧ Aside0 (Kd.R (Kd.int .i64) 3 w' w.heap.size (fun k_ => some k_ ≠ (v298 : Value).ownBlock) v300 t297) ∧ Aside0 (Below w.heap.size w w'))
            case atStart => exact ⟨(0), (by first | rfl | (simp; done) | (simp [*]; done)), H', ⟨Nat.le_refl _⟩, ⟨by (with_reducible repeat (first | apply Kd.R_alloc | apply Kd.R_drewN | apply Kd.R_drew)); exact HO_6.out⟩, ⟨by (with_reducible repeat (first | apply Kd.R_alloc | apply Kd.R_drewN | apply Kd.R_drew)); exact HO_7.out⟩, ⟨by repeat (first | (with_reducible first | exact HB.out | apply below_alloc | apply pw_below_drewN | apply below_drew1) | exact HB.out)⟩⟩
            case round =>
              clear H'
              try clear c1
              try clear c2
              try clear p2
              try clear p3
              try clear q3
              try clear hx3
              try clear qi3
              try clear c4
              try clear c5
              try clear c5b0
              try clear c5b1
              try clear c6
              try clear p6
              try clear c13
              try clear c13b0
              try clear c13b1
              try clear c14
              try clear c14b0
              try clear c14b1
              try clear c15
              try clear c15b0
              try clear c15b1
              try clear c16
              try clear c16b0
              try clear c16b1
              try clear c17
              try clear c17b0
              try clear c17b1
              try clear c24
              try clear hx302_0
              try clear hx303_0
              try clear p2
              try clear p3
              try clear p302
              try clear p303
              try clear p6
              try clear q3
              try clear q302
              try clear q303
              obtain ⟨x8_2, rfl, HA, HK2, HO_6, HO_7, HB⟩ := hrel
              cases gk with
              | zero => exact absurd HA.out (by simp [interlocutorlaw3_FoldPlaces.l0])
              | succ k2 =>
                have H := HA.out
                clear HA
                simp only [interlocutorlaw3_FoldPlaces.l0] at H
                by_cases c25 : x8_2 < (t296.length : Int)
                · rw [if_pos c25] at H
                  have c25b0 : decide (x8_2 < (t296.length : Int)) = true := decide_eq_true c25
                  clear c25
                  obtain ⟨ji26, hji26⟩ : ∃ j_ : Int, (wrap64 (x8_2 + 1)) = j_ := ⟨_, rfl⟩
                  replace H : (if 0 ≤ (ji26) then (if (ji26) < (t297.length : Int) then (if 0 ≤ x8_2 then (if x8_2 < (t297.length : Int) then (if (rd t297 (ji26)) ≤ (rd t297 x8_2) then (some false) else (if (rd t297 (ji26)) > (wrap64 ((rd t297 x8_2) + 4)) then (some false) else (interlocutorlaw3_FoldPlaces.l0 k2 t296 t297 ji26))) else (none)) else (none)) else (none)) else (none)) = some r := by first | (rw [hji26] at H; exact H) | (simp only [hji26] at H ⊢; exact H)
                  have hji26w : (IntKind.i64.wrap (x8_2 + 1)) = ji26 := (i64_w _).trans hji26
                  by_cases c27 : 0 ≤ (ji26)
                  · rw [if_pos c27] at H
                    have c27b0 : decide (0 ≤ (ji26)) = true := decide_eq_true c27
                    clear c27
                    by_cases c28 : (ji26) < (t297.length : Int)
                    · rw [if_pos c28] at H
                      have c28b0 : decide ((ji26) < (t297.length : Int)) = true := decide_eq_true c28
                      clear c28
                      by_cases c29 : 0 ≤ x8_2
                      · rw [if_pos c29] at H
                        have c29b0 : decide (0 ≤ x8_2) = true := decide_eq_true c29
                        clear c29
                        by_cases c30 : x8_2 < (t297.length : Int)
                        · rw [if_pos c30] at H
                          have c30b0 : decide (x8_2 < (t297.length : Int)) = true := decide_eq_true c30
                          clear c30
                          by_cases c31 : (rd t297 (ji26)) ≤ (rd t297 x8_2)
                          · rw [if_pos c31] at H
                            have c31b0 : decide ((rd t297 (ji26)) ≤ (rd t297 x8_2)) = true := decide_eq_true c31
                            clear c31
                            obtain rfl := Option.some.inj H
                            obtain ⟨Ao32, co32, eo32⟩ := Kd.R_slice HO_6.out
                            subst eo32
                            obtain ⟨Ao33, co33, eo33⟩ := Kd.R_slice HO_7.out
                            subst eo33
                            have p304 : 0 ≤ ((ji26) : Int) := of_decide_eq_true (by first | (with_reducible assumption) | assumption)
                            have q304 : (ji26) < (t297.length : Int) := of_decide_eq_true (by first | (with_reducible assumption) | assumption)
                            obtain ⟨ad304, e304, hx304_0⟩ := Kd.at_int (Kd.R_reads' HO_7.out).2.2 (ji26) p304 q304
                            cases e304
                            replace p304 := eq_true p304
                            replace q304 := eq_true q304
                            have p305 : 0 ≤ (x8_2 : Int) := of_decide_eq_true (by first | (with_reducible assumption) | assumption)
                            have q305 : x8_2 < (t297.length : Int) := of_decide_eq_true (by first | (with_reducible assumption) | assumption)
                            obtain ⟨ad305, e305, hx305_0⟩ := Kd.at_int (Kd.R_reads' HO_7.out).2.2 x8_2 p305 q305
                            obtain rfl : ad304 = ad305 := (by injection e305)
                            replace p305 := eq_true p305
                            replace q305 := eq_true q305
                            go_wp2
                            repeat (go_quiet (fail); try go_wp2)
                            go_ret
                            exact ⟨by first | rfl | (simp [errW_none, errW_some] <;> rfl) | (simp only [← hji26]; first | rfl | (simp [errW_none, errW_some] <;> rfl)) | (simp [*, errW_none, errW_some] <;> rfl), by repeat (first | (with_reducible first | exact HB.out | apply below_alloc | apply pw_below_drewN | apply below_drew1) | exact HB.out)⟩
                          · rw [if_neg c31] at H
                            have c31b0 : decide ((rd t297 (ji26)) ≤ (rd t297 x8_2)) = false := decide_eq_false c31
                            clear c31
                            by_cases c34 : (rd t297 (ji26)) > (wrap64 ((rd t297 x8_2) + 4))
                            · rw [if_pos c34] at H
                              have c34b0 : decide ((wrap64 ((rd t297 x8_2) + 4)) < (rd t297 (ji26))) = true := decide_eq_true c34
                              clear c34
                              obtain rfl := Option.some.inj H
                              obtain ⟨Ao35, co35, eo35⟩ := Kd.R_slice HO_6.out
                              subst eo35
                              obtain ⟨Ao36, co36, eo36⟩ := Kd.R_slice HO_7.out
                              subst eo36
                              have p304 : 0 ≤ ((ji26) : Int) := of_decide_eq_true (by first | (with_reducible assumption) | assumption)
                              have q304 : (ji26) < (t297.length : Int) := of_decide_eq_true (by first | (with_reducible assumption) | assumption)
                              obtain ⟨ad304, e304, hx304_0⟩ := Kd.at_int (Kd.R_reads' HO_7.out).2.2 (ji26) p304 q304
                              cases e304
                              replace p304 := eq_true p304
                              replace q304 := eq_true q304
                              have p305 : 0 ≤ (x8_2 : Int) := of_decide_eq_true (by first | (with_reducible assumption) | assumption)
                              have q305 : x8_2 < (t297.length : Int) := of_decide_eq_true (by first | (with_reducible assumption) | assumption)
                              obtain ⟨ad305, e305, hx305_0⟩ := Kd.at_int (Kd.R_reads' HO_7.out).2.2 x8_2 p305 q305
                              obtain rfl : ad304 = ad305 := (by injection e305)
                              replace p305 := eq_true p305
                              replace q305 := eq_true q305
                              have p306 : 0 ≤ ((ji26) : Int) := of_decide_eq_true (by first | (with_reducible assumption) | assumption)
                              have q306 : (ji26) < (t297.length : Int) := of_decide_eq_true (by first | (with_reducible assumption) | assumption)
                              obtain ⟨ad306, e306, hx306_0⟩ := Kd.at_int (Kd.R_reads' HO_7.out).2.2 (ji26) p306 q306
                              obtain rfl : ad304 = ad306 := (by injection e306)
                              replace p306 := eq_true p306
                              replace q306 := eq_true q306
                              have p307 : 0 ≤ (x8_2 : Int) := of_decide_eq_true (by first | (with_reducible assumption) | assumption)
                              have q307 : x8_2 < (t297.length : Int) := of_decide_eq_true (by first | (with_reducible assumption) | assumption)
                              obtain ⟨ad307, e307, hx307_0⟩ := Kd.at_int (Kd.R_reads' HO_7.out).2.2 x8_2 p307 q307
                              obtain rfl : ad304 = ad307 := (by injection e307)
                              replace p307 := eq_true p307
                              replace q307 := eq_true q307
                              go_wp2
                              repeat (go_quiet (fail); try go_wp2)
                              go_ret
                              exact ⟨by first | rfl | (simp [errW_none, errW_some] <;> rfl) | (simp only [← hji26]; first | rfl | (simp [errW_none, errW_some] <;> rfl)) | (simp [*, errW_none, errW_some] <;> rfl), by repeat (first | (with_reducible first | exact HB.out | apply below_alloc | apply pw_below_drewN | apply below_drew1) | exact HB.out)⟩
                            · rw [if_neg c34] at H
                              have c34b0 : decide ((wrap64 ((rd t297 x8_2) + 4)) < (rd t297 (ji26))) = false := decide_eq_false c34
                              clear c34
                              have H' := Aside0.mk H
                              clear H
                              obtain ⟨Ao37, co37, eo37⟩ := Kd.R_slice HO_6.out
                              subst eo37
                              obtain ⟨Ao38, co38, eo38⟩ := Kd.R_slice HO_7.out
                              subst eo38
                              have p304 : 0 ≤ ((ji26) : Int) := of_decide_eq_true (by first | (with_reducible assumption) | assumption)
                              have q304 : (ji26) < (t297.length : Int) := of_decide_eq_true (by first | (with_reducible assumption) | assumption)
                              obtain ⟨ad304, e304, hx304_0⟩ := Kd.at_int (Kd.R_reads' HO_7.out).2.2 (ji26) p304 q304
                              cases e304
                              replace p304 := eq_true p304
                              replace q304 := eq_true q304
                              have p305 : 0 ≤ (x8_2 : Int) := of_decide_eq_true (by first | (with_reducible assumption) | assumption)
                              have q305 : x8_2 < (t297.length : Int) := of_decide_eq_true (by first | (with_reducible assumption) | assumption)
                              obtain ⟨ad305, e305, hx305_0⟩ := Kd.at_int (Kd.R_reads' HO_7.out).2.2 x8_2 p305 q305
                              obtain rfl : ad304 = ad305 := (by injection e305)
                              replace p305 := eq_true p305
                              replace q305 := eq_true q305
                              have p306 : 0 ≤ ((ji26) : Int) := of_decide_eq_true (by first | (with_reducible assumption) | assumption)
                              have q306 : (ji26) < (t297.length : Int) := of_decide_eq_true (by first | (with_reducible assumption) | assumption)
                              obtain ⟨ad306, e306, hx306_0⟩ := Kd.at_int (Kd.R_reads' HO_7.out).2.2 (ji26) p306 q306
                              obtain rfl : ad304 = ad306 := (by injection e306)
                              replace p306 := eq_true p306
                              replace q306 := eq_true q306
                              have p307 : 0 ≤ (x8_2 : Int) := of_decide_eq_true (by first | (with_reducible assumption) | assumption)
                              have q307 : x8_2 < (t297.length : Int) := of_decide_eq_true (by first | (with_reducible assumption) | assumption)
                              obtain ⟨ad307, e307, hx307_0⟩ := Kd.at_int (Kd.R_reads' HO_7.out).2.2 x8_2 p307 q307
                              obtain rfl : ad304 = ad307 := (by injection e307)
                              replace p307 := eq_true p307
                              replace q307 := eq_true q307
                              go_wp2
                              repeat (go_quiet (fail); try go_wp2)
                              go_roundg k2
                              case measure => have := HJ8.out; have := HK2.out; omega
                              case rel => exact ⟨(ji26), (by first | rfl | (simp; done) | (simp only [← hji26] <;> (first | rfl | simp)) | (simp [*]; done)), H', ⟨by have := HJ8.out; have := HK2.out; omega⟩, ⟨by (with_reducible repeat (first | apply Kd.R_alloc | apply Kd.R_drewN | apply Kd.R_drew)); exact HO_6.out⟩, ⟨by (with_reducible repeat (first | apply Kd.R_alloc | apply Kd.R_drewN | apply Kd.R_drew)); exact HO_7.out⟩, ⟨by repeat (first | (with_reducible first | exact HB.out | apply below_alloc | apply pw_below_drewN | apply below_drew1) | exact HB.out)⟩⟩
                        · rw [if_neg c30] at H
                          exact absurd H (by simp)
                      · rw [if_neg c29] at H
                        exact absurd H (by simp)
                    · rw [if_neg c28] at H
                      exact absurd H (by simp)
                  · rw [if_neg c27] at H
                    exact absurd H (by simp)
                · rw [if_neg c25] at H
                  have c25b0 : decide (x8_2 < (t296.length : Int)) = false := decide_eq_false c25
                  clear c25
                  obtain rfl := Option.some.inj H
                  obtain ⟨Ao39, co39, eo39⟩ := Kd.R_slice HO_6.out
                  subst eo39
                  go_wp2
                  repeat (go_quiet (fail); try go_wp2)
                  go_ret
                  exact ⟨by first | rfl | (simp [errW_none, errW_some] <;> rfl) | (simp [*, errW_none, errW_some] <;> rfl), by repeat (first | (with_reducible first | exact HB.out | apply below_alloc | apply pw_below_drewN | apply below_drew1) | exact HB.out)⟩
  · replace c4 := Bool.eq_false_iff.mpr c4
    subst c4
    have H1 : (some false) = some r := by rw [if_neg (show ¬ (false = true) by decide)] at H; exact H
    clear H
    have H := H1
    clear H1
    obtain rfl := Option.some.inj H
    go_enter Try.func6, Try.ntmps6
    go_wp2_with (first | (go_at_call 14; (with_reducible refine (interlocutorlaw3_known.calls k  false _ A3.out).mono ?_); rintro e w40 ⟨rfl, hb⟩; have n0_ := Aside0.mk (below_step (by repeat (first | (with_reducible first | exact HB.out | apply below_alloc | apply pw_below_drewN | apply below_drew1) | exact HB.out)) hb); clear HB; have HB := n0_; clear n0_; (try clear hb); (try clear hb2); (try clear hk); (try clear hi)))
    repeat (go_quiet (first | (go_at_call 14; (with_reducible refine (interlocutorlaw3_known.calls k  false _ A3.out).mono ?_); rintro e w40 ⟨rfl, hb⟩; have n0_ := Aside0.mk (below_step (by repeat (first | (with_reducible first | exact HB.out | apply below_alloc | apply pw_below_drewN | apply below_drew1) | exact HB.out)) hb); clear HB; have HB := n0_; clear n0_; (try clear hb); (try clear hb2); (try clear hk); (try clear hi))); try go_wp2_with (first | (go_at_call 14; (with_reducible refine (interlocutorlaw3_known.calls k  false _ A3.out).mono ?_); rintro e w40 ⟨rfl, hb⟩; have n0_ := Aside0.mk (below_step (by repeat (first | (with_reducible first | exact HB.out | apply below_alloc | apply pw_below_drewN | apply below_drew1) | exact HB.out)) hb); clear HB; have HB := n0_; clear n0_; (try clear hb); (try clear hb2); (try clear hk); (try clear hi))))
    go_ret
    exact ⟨by first | rfl | (simp [errW_none, errW_some] <;> rfl) | (simp [*, errW_none, errW_some] <;> rfl), by repeat (first | (with_reducible first | exact HB.out | apply below_alloc | apply pw_below_drewN | apply below_drew1) | exact HB.out)⟩

/-- THE ONE PURE STATEMENT of interlocutorlaw3_FoldPlaces: yours. -/
def interlocutorlaw3_FoldPlaces.Pure : Prop := ∀ (l0 : List Int) (l1 : List Int), l0.length ≤ maxLen → l0.length * 8 ≤ 140737488351232 → (∀ x ∈ l0, (Lit.int .i64 x).wf = true) → l1.length ≤ maxLen → l1.length * 1 ≤ 140737488351232 → (∀ x ∈ l1, (Lit.int .u8 x).wf = true) → ∃ k, interlocutorlaw3_FoldPlaces.f k l0 l1 = some true
theorem interlocutorlaw3_FoldPlaces.walk (P : interlocutorlaw3_FoldPlaces.Pure) (a0 : Option Addr) (len0 cap0 : Nat) (z0 : List Int) (a1 : Option Addr) (len1 cap1 : Nat) (z1 : List Int) (w : World) (w0 : (a0 = none ∧ len0 = 0 ∧ cap0 = 0 ∧ z0 = []) ∨ ∃ x, a0 = some x ∧ len0 ≤ cap0 ∧ cap0 ≤ maxLen ∧ z0.length = cap0 ∧ (∀ i, i < z0.length → w.cell? (x.add i) = some (.int .i64 (z0.getD i 0))) ∧ ∀ n ∈ z0, (Lit.int .i64 n).wf = true) (y0 : len0 * 8 ≤ 140737488351232) (w1 : (a1 = none ∧ len1 = 0 ∧ cap1 = 0 ∧ z1 = []) ∨ ∃ x, a1 = some x ∧ len1 ≤ cap1 ∧ cap1 ≤ maxLen ∧ z1.length = cap1 ∧ (∀ i, i < z1.length → w.cell? (x.add i) = some (.int .u8 (z1.getD i 0))) ∧ ∀ n ∈ z1, (Lit.int .u8 n).wf = true) (y1 : len1 * 1 ≤ 140737488351232) :
    Calls Try.prog 6 #[.slice a0 len0 cap0, .slice a1 len1 cap1] w fun e w' => e = .returned (.bool true) ∧ Below w.heap.size w w' := by
  obtain ⟨l0, rfl, hr0, hm0, hw0, hc0⟩ := ReadsInt.ofRowC w0
  obtain ⟨l1, rfl, hr1, hm1, hw1, hc1⟩ := ReadsInt.ofRowC w1
  obtain ⟨k, h⟩ := P l0 l1 hm0 y0 hw0 hm1 y1 hw1
  refine (interlocutorlaw3_FoldPlaces.calls k _ _ l0 _ _ l1 true w (Kd.C_of_reads (d := (0 : Int)) (h1 := fun _ => rfl) hr0) hc0 (Kd.C_of_reads (d := (0 : Int)) (h1 := fun _ => rfl) hr1) hc1 h).mono ?_
  rintro e w' ⟨rfl, hd⟩
  exact ⟨rfl, hd⟩

end Go.Proofs.Ytmpmjghhikdefaa.G
