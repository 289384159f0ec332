-- printed by wip/tool/gprint.py, a program of this work, out of the translation; Lean checks it
import Derived.Test.YtmpmjghhikdefaaGx0
import Derived.Test.YtmpmjghhikdefaaGx3
import Derived.Test.YtmpmjghhikdefaaGx6
namespace Go.Proofs.Ytmpmjghhikdefaa.G
open Go.RowKit Go.Proofs.YtmpmjghhikdefaaW.PrintWords Go.Proofs.YtmpmjghhikdefaaW.PrintLast Go.Proofs.YtmpmjghhikdefaaW.PrintMore Go.Proofs.YtmpmjghhikdefaaW.VWords
attribute [local go_sem] max2_int min2_int max_two min_two max_three min_three max_four min_four   -- for this text's walks alone
set_option linter.unusedVariables false
set_option linter.unusedSimpArgs false

/-! ### interlocutorlaw3_FoldAscii: function 9 -/
mutual
def interlocutorlaw3_FoldAscii.l0 : Nat → List Int → Int → Option (Bool)
  | 0, _, _ => none
  | k + 1, x3, x4 => if x4 < (x3.length : Int) then (if 0 ≤ x4 then (interlocutorlaw3_FoldAscii.l0 k (x3.set (x4 : Int).toNat (Go.bits .and .u8 (rd x3 x4) 127)) (wrap64 (x4 + 1))) else (none)) else ((fold_Fold.f (strOfNums x3)).bind fun bt377 => (if (bt377.1.length : Int) = (x3.length : Int) then (interlocutorlaw3_FoldAscii.j1 k x3 bt377.1 bt377.2 ((bt377.2.length : Int) != (wrap64 ((x3.length : Int) + 1)))) else (interlocutorlaw3_FoldAscii.j1 k x3 bt377.1 bt377.2 true)))
def interlocutorlaw3_FoldAscii.j1 : Nat → List Int → List Int → List Int → Bool → Option (Bool)
  | 0, _, _, _, _ => none
  | k + 1, x3, x5, x6, x49 => if x49 = true then (some false) else (interlocutorlaw3_FoldAscii.l1 k x3 x5 x6 0)
def interlocutorlaw3_FoldAscii.l1 : Nat → List Int → List Int → List Int → Int → Option (Bool)
  | 0, _, _, _, _ => none
  | k + 1, x3, x5, x6, x7 => if x7 < (x3.length : Int) then (if 0 ≤ x7 then (if (wrap64 (rd x3 x7)) ≥ 65 then (interlocutorlaw3_FoldAscii.j3 k x3 x5 x6 x7 (wrap64 (rd x3 x7)) (decide ((wrap64 (rd x3 x7)) ≤ 90))) else (interlocutorlaw3_FoldAscii.j3 k x3 x5 x6 x7 (wrap64 (rd x3 x7)) false)) else (none)) else (some true)
def interlocutorlaw3_FoldAscii.j3 : Nat → List Int → List Int → List Int → Int → Int → Bool → Option (Bool)
  | 0, _, _, _, _, _, _ => none
  | k + 1, x3, x5, x6, x7, x8, x66 => if x66 = true then (interlocutorlaw3_FoldAscii.j4 k x3 x5 x6 x7 (wrap64 (x8 + 32))) else (interlocutorlaw3_FoldAscii.j4 k x3 x5 x6 x7 x8)
def interlocutorlaw3_FoldAscii.j4 : Nat → List Int → List Int → List Int → Int → Int → Option (Bool)
  | 0, _, _, _, _, _ => none
  | k + 1, x3, x5, x6, x7, x8 => if x8 = 9 then (if 0 ≤ x7 then (if x7 < (x5.length : Int) then (if (rd x5 x7) = 32 then (if x7 < (x6.length : Int) then (if (rd x6 x7) = x7 then (interlocutorlaw3_FoldAscii.l1 k x3 x5 x6 (wrap64 (x7 + 1))) else (some false)) else (none)) else (some false)) else (none)) else (none)) else (if 0 ≤ x7 then (if x7 < (x5.length : Int) then (if (rd x5 x7) = x8 then (if x7 < (x6.length : Int) then (if (rd x6 x7) = x7 then (interlocutorlaw3_FoldAscii.l1 k x3 x5 x6 (wrap64 (x7 + 1))) else (some false)) else (none)) else (some false)) else (none)) else (none))
end
def interlocutorlaw3_FoldAscii.f (k : Nat) (l0 : List Int) : Option (Bool) := (interlocutorlaw3_known.f k).bind fun t368 => (if t368 = true then (if (l0.length : Int) > 200 then (some true) else ((some (([] : List Int) : List Int)).bind fun y369 => (if y369.length + l0.length < 140737488355328 then (interlocutorlaw3_FoldAscii.l0 k (y369 ++ l0) 0) else (none)))) else (some false))
theorem interlocutorlaw3_FoldAscii.mono_l : ∀ k, (∀ y0 y1, LeO (interlocutorlaw3_FoldAscii.l0 k y0 y1) (interlocutorlaw3_FoldAscii.l0 (k + 1) y0 y1)) ∧ (∀ y0 y1 y2 y3, LeO (interlocutorlaw3_FoldAscii.j1 k y0 y1 y2 y3) (interlocutorlaw3_FoldAscii.j1 (k + 1) y0 y1 y2 y3)) ∧ (∀ y0 y1 y2 y3, LeO (interlocutorlaw3_FoldAscii.l1 k y0 y1 y2 y3) (interlocutorlaw3_FoldAscii.l1 (k + 1) y0 y1 y2 y3)) ∧ (∀ y0 y1 y2 y3 y4 y5, LeO (interlocutorlaw3_FoldAscii.j3 k y0 y1 y2 y3 y4 y5) (interlocutorlaw3_FoldAscii.j3 (k + 1) y0 y1 y2 y3 y4 y5)) ∧ (∀ y0 y1 y2 y3 y4, LeO (interlocutorlaw3_FoldAscii.j4 k y0 y1 y2 y3 y4) (interlocutorlaw3_FoldAscii.j4 (k + 1) y0 y1 y2 y3 y4))
  | 0 => ⟨fun _ _ r h => by simp [interlocutorlaw3_FoldAscii.l0] at h, fun _ _ _ _ r h => by simp [interlocutorlaw3_FoldAscii.j1] at h, fun _ _ _ _ r h => by simp [interlocutorlaw3_FoldAscii.l1] at h, fun _ _ _ _ _ _ r h => by simp [interlocutorlaw3_FoldAscii.j3] at h, fun _ _ _ _ _ r h => by simp [interlocutorlaw3_FoldAscii.j4] at h⟩
  | k + 1 => by
    obtain ⟨ih0, ih1, ih2, ih3, ih4⟩ := interlocutorlaw3_FoldAscii.mono_l k
    refine ⟨?_, ?_, ?_, ?_, ?_⟩
    · intro y0 y1
      unfold interlocutorlaw3_FoldAscii.l0
      repeat' first
      | (with_reducible exact ih0 _ _)
      | (with_reducible exact ih1 _ _ _ _)
      | (with_reducible exact ih2 _ _ _ _)
      | (with_reducible exact ih3 _ _ _ _ _ _)
      | (with_reducible exact ih4 _ _ _ _ _)
      | (with_reducible exact interlocutorlaw3_known.mono _)
      | (with_reducible exact LeO.refl _)
      | (with_reducible exact LeO.none _)
      | (with_reducible refine LeO.ite ?_ ?_)
      | (with_reducible refine LeO.bind ?_ (fun _ => ?_))
      | exact ih0 _ _
      | exact ih1 _ _ _ _
      | exact ih2 _ _ _ _
      | exact ih3 _ _ _ _ _ _
      | exact ih4 _ _ _ _ _
      | exact interlocutorlaw3_known.mono _
      | exact LeO.none _
      | refine LeO.ite ?_ ?_
      | refine LeO.bind ?_ (fun _ => ?_)
    · intro y0 y1 y2 y3
      unfold interlocutorlaw3_FoldAscii.j1
      repeat' first
      | (with_reducible exact ih0 _ _)
      | (with_reducible exact ih1 _ _ _ _)
      | (with_reducible exact ih2 _ _ _ _)
      | (with_reducible exact ih3 _ _ _ _ _ _)
      | (with_reducible exact ih4 _ _ _ _ _)
      | (with_reducible exact interlocutorlaw3_known.mono _)
      | (with_reducible exact LeO.refl _)
      | (with_reducible exact LeO.none _)
      | (with_reducible refine LeO.ite ?_ ?_)
      | (with_reducible refine LeO.bind ?_ (fun _ => ?_))
      | exact ih0 _ _
      | exact ih1 _ _ _ _
      | exact ih2 _ _ _ _
      | exact ih3 _ _ _ _ _ _
      | exact ih4 _ _ _ _ _
      | exact interlocutorlaw3_known.mono _
      | exact LeO.none _
      | refine LeO.ite ?_ ?_
      | refine LeO.bind ?_ (fun _ => ?_)
    · intro y0 y1 y2 y3
      unfold interlocutorlaw3_FoldAscii.l1
      repeat' first
      | (with_reducible exact ih0 _ _)
      | (with_reducible exact ih1 _ _ _ _)
      | (with_reducible exact ih2 _ _ _ _)
      | (with_reducible exact ih3 _ _ _ _ _ _)
      | (with_reducible exact ih4 _ _ _ _ _)
      | (with_reducible exact interlocutorlaw3_known.mono _)
      | (with_reducible exact LeO.refl _)
      | (with_reducible exact LeO.none _)
      | (with_reducible refine LeO.ite ?_ ?_)
      | (with_reducible refine LeO.bind ?_ (fun _ => ?_))
      | exact ih0 _ _
      | exact ih1 _ _ _ _
      | exact ih2 _ _ _ _
      | exact ih3 _ _ _ _ _ _
      | exact ih4 _ _ _ _ _
      | exact interlocutorlaw3_known.mono _
      | exact LeO.none _
      | refine LeO.ite ?_ ?_
      | refine LeO.bind ?_ (fun _ => ?_)
    · intro y0 y1 y2 y3 y4 y5
      unfold interlocutorlaw3_FoldAscii.j3
      repeat' first
      | (with_reducible exact ih0 _ _)
      | (with_reducible exact ih1 _ _ _ _)
      | (with_reducible exact ih2 _ _ _ _)
      | (with_reducible exact ih3 _ _ _ _ _ _)
      | (with_reducible exact ih4 _ _ _ _ _)
      | (with_reducible exact interlocutorlaw3_known.mono _)
      | (with_reducible exact LeO.refl _)
      | (with_reducible exact LeO.none _)
      | (with_reducible refine LeO.ite ?_ ?_)
      | (with_reducible refine LeO.bind ?_ (fun _ => ?_))
      | exact ih0 _ _
      | exact ih1 _ _ _ _
      | exact ih2 _ _ _ _
      | exact ih3 _ _ _ _ _ _
      | exact ih4 _ _ _ _ _
      | exact interlocutorlaw3_known.mono _
      | exact LeO.none _
      | refine LeO.ite ?_ ?_
      | refine LeO.bind ?_ (fun _ => ?_)
    · intro y0 y1 y2 y3 y4
      unfold interlocutorlaw3_FoldAscii.j4
      repeat' first
      | (with_reducible exact ih0 _ _)
      | (with_reducible exact ih1 _ _ _ _)
      | (with_reducible exact ih2 _ _ _ _)
      | (with_reducible exact ih3 _ _ _ _ _ _)
      | (with_reducible exact ih4 _ _ _ _ _)
      | (with_reducible exact interlocutorlaw3_known.mono _)
      | (with_reducible exact LeO.refl _)
      | (with_reducible exact LeO.none _)
      | (with_reducible refine LeO.ite ?_ ?_)
      | (with_reducible refine LeO.bind ?_ (fun _ => ?_))
      | exact ih0 _ _
      | exact ih1 _ _ _ _
      | exact ih2 _ _ _ _
      | exact ih3 _ _ _ _ _ _
      | exact ih4 _ _ _ _ _
      | exact interlocutorlaw3_known.mono _
      | exact LeO.none _
      | refine LeO.ite ?_ ?_
      | refine LeO.bind ?_ (fun _ => ?_)
theorem interlocutorlaw3_FoldAscii.mono : ∀ a0 k, LeO (interlocutorlaw3_FoldAscii.f k a0) (interlocutorlaw3_FoldAscii.f (k + 1) a0) := by
  intro a0 k
  obtain ⟨ih0, ih1, ih2, ih3, ih4⟩ := interlocutorlaw3_FoldAscii.mono_l k
  unfold interlocutorlaw3_FoldAscii.f
  repeat' first
      | (with_reducible exact ih0 _ _)
      | (with_reducible exact ih1 _ _ _ _)
      | (with_reducible exact ih2 _ _ _ _)
      | (with_reducible exact ih3 _ _ _ _ _ _)
      | (with_reducible exact ih4 _ _ _ _ _)
      | (with_reducible exact interlocutorlaw3_known.mono _)
      | (with_reducible exact LeO.refl _)
      | (with_reducible exact LeO.none _)
      | (with_reducible refine LeO.ite ?_ ?_)
      | (with_reducible refine LeO.bind ?_ (fun _ => ?_))
      | exact ih0 _ _
      | exact ih1 _ _ _ _
      | exact ih2 _ _ _ _
      | exact ih3 _ _ _ _ _ _
      | exact ih4 _ _ _ _ _
      | exact interlocutorlaw3_known.mono _
      | exact LeO.none _
      | refine LeO.ite ?_ ?_
      | refine LeO.bind ?_ (fun _ => ?_)
set_option maxHeartbeats 8000000 in
set_option maxRecDepth 100000 in
theorem interlocutorlaw3_FoldAscii.calls (k : Nat) (A0 : Option Addr) (c0 : Nat) (l0 : List Int) (r : Bool) (w : World) (hr0 : Kd.C (Kd.int .u8) w A0 l0.length l0) (hc0 : l0.length ≤ c0) (h : interlocutorlaw3_FoldAscii.f k l0 = some r) :
    Calls Try.prog 9 #[.slice A0 l0.length c0] w fun e w' => e = .returned (.bool r) ∧ Below w.heap.size w w' := by
  have HR0 := Aside0.mk hr0
  have HC0 := Aside0.mk hc0
  clear hr0 hc0
  have HB := Aside0.mk (Below.refl w.heap.size w)
  have H : ((interlocutorlaw3_known.f k).bind fun t368 => (if t368 = true then (if (l0.length : Int) > 200 then (some true) else ((some (([] : List Int) : List Int)).bind fun y369 => (if y369.length + l0.length < 140737488355328 then (interlocutorlaw3_FoldAscii.l0 k (y369 ++ l0) 0) else (none)))) else (some false))) = some r := h
  clear h
  replace H := Option.bind_eq_some_iff.mp H
  obtain ⟨t368, A20, H⟩ := H
  replace H : (if t368 = true then (if (l0.length : Int) > 200 then (some true) else ((some (([] : List Int) : List Int)).bind fun y369 => (if y369.length + l0.length < 140737488355328 then (interlocutorlaw3_FoldAscii.l0 k (y369 ++ l0) 0) else (none)))) else (some false)) = some r := H
  have A2 := Aside0.mk A20
  clear A20
  by_cases c3 : t368 = true
  · subst c3
    have H1 : (if (l0.length : Int) > 200 then (some true) else ((some (([] : List Int) : List Int)).bind fun y369 => (if y369.length + l0.length < 140737488355328 then (interlocutorlaw3_FoldAscii.l0 k (y369 ++ l0) 0) else (none)))) = some r := by rw [if_pos rfl] at H; exact H
    clear H
    have H := H1
    clear H1
    by_cases c4 : (l0.length : Int) > 200
    · rw [if_pos c4] at H
      have c4b0 : decide (200 < (l0.length : Int)) = true := decide_eq_true c4
      have c4b1 : decide (200 < l0.length) = true := decide_eq_true (by omega)
      clear c4
      obtain rfl := Option.some.inj H
      go_enter Try.func9, Try.ntmps9
      go_wp2_with (first | ((with_reducible refine gate_callee (f := 14) rfl ?_); refine goesL_ (some 9) rfl rfl Try.func14 (by kernel_rfl) rfl #[] rfl (by (try simp only [List.map_toArray, List.map_cons, List.map_nil]); first | done | rfl | (simp only [List.length_drop, List.length_take]; rfl)) ?_; (with_reducible refine (interlocutorlaw3_known.calls k  true _ A2.out).mono ?_); rintro e w5 ⟨rfl, hb⟩; refine ⟨_, rfl, ?_⟩; have n0_ := Aside0.mk (below_step (by repeat (first | (with_reducible first | exact HB.out | apply below_alloc | apply pw_below_drewN | apply below_drew1) | exact HB.out)) hb); clear HB; have HB := n0_; clear n0_; (try clear hb); (try clear hb2); (try clear hk); (try clear hi)))
      go_ret
      exact ⟨by first | rfl | (simp [errW_none, errW_some] <;> rfl) | (simp [*, errW_none, errW_some] <;> rfl), by repeat (first | (with_reducible first | exact HB.out | apply below_alloc | apply pw_below_drewN | apply below_drew1) | exact HB.out)⟩
    · rw [if_neg c4] at H
      have c4b0 : decide (200 < (l0.length : Int)) = false := decide_eq_false c4
      have c4b1 : decide (200 < l0.length) = false := decide_eq_false (by omega)
      clear c4
      obtain ⟨y369, hy369⟩ : ∃ y_ : List Int, y_ = (([] : List Int)) := ⟨_, rfl⟩
      replace H : (if y369.length + l0.length < 140737488355328 then (interlocutorlaw3_FoldAscii.l0 k (y369 ++ l0) 0) else (none)) = some r := by first | (rw [hy369]; with_reducible exact H) | (have H2_ := (Option.bind_some _ _).symm.trans H; rw [hy369]; with_reducible exact H2_) | (have H2_ := (Option.bind_some _ _).symm.trans H; with_reducible exact H2_) | with_reducible exact H | (rw [hy369]; exact H) | exact H
      have Ny369 := Aside0.mk hy369
      clear hy369
      by_cases c6 : y369.length + l0.length < 140737488355328
      · rw [if_pos c6] at H
        have LMc6 := Aside0.mk c6
        clear c6
        obtain ⟨y372, hy372⟩ : ∃ y_ : List Int, y_ = (y369 ++ l0) := ⟨_, rfl⟩
        replace H : (interlocutorlaw3_FoldAscii.l0 k y372 0) = some r := by first | (rw [hy372]; with_reducible exact H) | (have H2_ := (Option.bind_some _ _).symm.trans H; rw [hy372]; with_reducible exact H2_) | (have H2_ := (Option.bind_some _ _).symm.trans H; with_reducible exact H2_) | with_reducible exact H | (rw [hy372]; exact H) | exact H
        have Ny372 := Aside0.mk hy372
        clear hy372
        have H' := Aside0.mk H
        clear H
        go_enter Try.func9, Try.ntmps9
        go_wp2_with (first | ((with_reducible refine gate_callee (f := 14) rfl ?_); refine goesL_ (some 9) rfl rfl Try.func14 (by kernel_rfl) rfl #[] rfl (by (try simp only [List.map_toArray, List.map_cons, List.map_nil]); first | done | rfl | (simp only [List.length_drop, List.length_take]; rfl)) ?_; (with_reducible refine (interlocutorlaw3_known.calls k  true _ A2.out).mono ?_); rintro e w7 ⟨rfl, hb⟩; refine ⟨_, rfl, ?_⟩; have n0_ := Aside0.mk (below_step (by repeat (first | (with_reducible first | exact HB.out | apply below_alloc | apply pw_below_drewN | apply below_drew1) | exact HB.out)) hb); clear HB; have HB := n0_; clear n0_; (try clear hb); (try clear hb2); (try clear hk); (try clear hi)) | ((with_reducible refine gate_dst (N := 14) rfl ?_); (try (refine gate_guard (by rfl) ?_; dsimp only)); refine Kd.R_lit (Kd.int .u8) _ 5 ?hg (N := 14) ?hd (xs := ([] : List Int)) (inner := []) (ok := fun _ => True) (okp := fun _ => True) ?hr ?hp (fun _ hk => hk) trivial (Below.refl _ _) (Nat.le_refl _) (by simp) ?_; (case hd => rfl); (case hg => rfl); (case hr => first | (go_simp; done) | (go_simp; rfl)); (case hp => exact (Reps.none _ _)); intro v370 w8 ho9 hb hg_ hnew_; clear hg_ hnew_; (first | rw [← Ny369.out] at ho9 | (simp only [Int.reduceToNat] at ho9; rw [← Ny369.out] at ho9)); have n0_ := Aside0.mk (Kd.R_lower ho9 (below_size (by repeat (first | (with_reducible first | exact HB.out | apply below_alloc | apply pw_below_drewN | apply below_drew1) | exact HB.out)))); have n1_ := Aside0.mk (below_step (by repeat (first | (with_reducible first | exact HB.out | apply below_alloc | apply pw_below_drewN | apply below_drew1) | exact HB.out)) hb); clear HB; have HO371 := n0_; have HB := n1_; clear n0_ n1_; clear hb ho9) | ((with_reducible refine gate_builtin (b := .append) (xs := #[.tmp 14, .tmp 15]) rfl ?_); (try (refine gate_guard (by rfl) ?_; dsimp only)); at_builtin; refine Kd.R_append_rows (Kd.int .u8) (w0 := w) w.heap.size rfl (.tmp 14) (.tmp 15) 23 5 (.int .u8 0) 1 rfl Try.underlying23 info5 rfl (by decide) (by omega) v370 y369 l0 _ _ _ (fun _ => True) (fun _ => False) rfl rfl ?aO ?aR (fun _ _ h => h) (fun _ h => h.elim) ?aF ?aB ?aS ?aL ?_; (case aR => repeat (first | exact (Kd.C_below HR0.out HB.out) | (with_reducible refine Kd.C_alloc ?_ _) | (with_reducible refine Kd.C_drewN ?_ _) | (with_reducible refine Kd.C_drew ?_))); (case aB => exact (by repeat (first | (with_reducible first | exact HB.out | apply below_alloc | apply pw_below_drewN | apply below_drew1) | exact HB.out))); (case aF => exact (fun _ _ => trivial)); (case aO => exact (by (with_reducible repeat (first | apply Kd.R_alloc | apply Kd.R_drewN | apply Kd.R_drew)); exact HO371.out)); (case aS => exact (below_size (by repeat (first | (with_reducible first | exact HB.out | apply below_alloc | apply pw_below_drewN | apply below_drew1) | exact HB.out)))); (case aL => have := LMc6.out; omega); intro v373 w10 ho hb hg hat; rw [← Ny372.out] at ho; have n0_ := Aside0.mk (hb); have n1_ := Aside0.mk (ho); clear HB; clear HO371; have HB := n0_; have HO374 := n1_; clear n0_ n1_; clear ho hb hg hat))
        go_loopg [4] k (fun kq v4 w' => ∃ (x3_1 : List Int) (x4_1 : Int), v4 = .int .i64 x4_1 ∧ Aside0 (interlocutorlaw3_FoldAscii.l0 kq x3_1 x4_1 = some r) ∧ Aside0 (kq ≤ k) ∧ Aside0 (Kd.R (Kd.int .u8) 5 w' w.heap.size (fun _ => True) v373 x3_1) ∧ Aside0 (Below w.heap.size w w'))
        case atStart => exact ⟨(y372), (0), (by first | rfl | (simp; done) | (simp [*]; done)), H', ⟨Nat.le_refl _⟩, ⟨by (with_reducible repeat (first | apply Kd.R_alloc | apply Kd.R_drewN | apply Kd.R_drew)); exact HO374.out⟩, ⟨by repeat (first | (with_reducible first | exact HB.out | apply below_alloc | apply pw_below_drewN | apply below_drew1) | exact HB.out)⟩⟩
        case round =>
          clear H'
          try clear c1
          try clear p2
          try clear c3
          try clear c4
          try clear c4b0
          try clear c4b1
          try clear c6
          try clear c9
          obtain ⟨x3_1, x4_1, rfl, HA, HK1, HO_3, HB⟩ := hrel
          cases gk with
          | zero => exact absurd HA.out (by simp [interlocutorlaw3_FoldAscii.l0])
          | succ k1 =>
            have H := HA.out
            clear HA
            simp only [interlocutorlaw3_FoldAscii.l0] at H
            by_cases c11 : x4_1 < (x3_1.length : Int)
            · rw [if_pos c11] at H
              have c11b0 : decide (x4_1 < (x3_1.length : Int)) = true := decide_eq_true c11
              clear c11
              by_cases c12 : 0 ≤ x4_1
              · rw [if_pos c12] at H
                have c12b0 : decide (0 ≤ x4_1) = true := decide_eq_true c12
                clear c12
                obtain ⟨y376, hy376⟩ : ∃ y_ : List Int, y_ = (x3_1.set (x4_1 : Int).toNat (Go.bits .and .u8 (rd x3_1 x4_1) 127)) := ⟨_, rfl⟩
                replace H : (interlocutorlaw3_FoldAscii.l0 k1 y376 (wrap64 (x4_1 + 1))) = some r := by first | (rw [hy376]; with_reducible exact H) | (have H2_ := (Option.bind_some _ _).symm.trans H; rw [hy376]; with_reducible exact H2_) | (have H2_ := (Option.bind_some _ _).symm.trans H; with_reducible exact H2_) | with_reducible exact H | (rw [hy376]; exact H) | exact H
                have Ny376 := Aside0.mk hy376
                clear hy376
                have H' := Aside0.mk H
                clear H
                obtain ⟨Ao14, co14, eo14⟩ := Kd.R_slice HO_3.out
                subst eo14
                have p375 : 0 ≤ (x4_1 : Int) := of_decide_eq_true (by first | (with_reducible assumption) | assumption)
                have q375 : x4_1 < (x3_1.length : Int) := of_decide_eq_true (by first | (with_reducible assumption) | assumption)
                obtain ⟨ad375, e375, hx375_0⟩ := Kd.at_int (Kd.R_reads' HO_3.out).2.2 x4_1 p375 q375
                cases e375
                replace p375 := eq_true p375
                replace q375 := eq_true q375
                have p13 : 0 ≤ (x4_1 : Int) := of_decide_eq_true (by first | (with_reducible assumption) | assumption)
                have q13 : (x4_1 : Int) < ((x3_1.length : Int) : Int) := of_decide_eq_true (by first | (with_reducible assumption) | assumption)
                obtain ⟨go13, co13, eo13, gb13, gl13, cl13, HG13⟩ := Kd.R_form HO_3.out (by omega)
                (first | cases eo13 | (injection eo13 with ea_ en_ ec_; (first | subst ea_ | (injection ea_ with ea_; subst ea_)); subst ec_; clear en_))
                have GB13 := Aside0.mk gb13
                have GG13 := Aside0.mk HG13
                clear gb13 gl13 HG13
                (first | simp only [add_plain] at hx375_0 | skip)
                obtain ⟨hx13_0, hf13_0⟩ := Kd.R_celln 0 HO_3.out (x4_1 : Int) p13 q13
                replace p13 := eq_true p13
                replace q13 := eq_true q13
                have HP15 := Kd.R_putg HO_3.out (x4_1 : Int) (Go.bits .and .u8 (rd x3_1 x4_1) 127)
                go_wp2_with (first | ((with_reducible refine gate_store (t := 5) (p := 30) rfl ?_); refine store_event (t := 5) (p := 30) (v := ?vo_w16) (w1 := (wr.setCell ⟨go13, (x4_1 : Int).toNat, none⟩ (.int .u8 (Go.bits .and .u8 (rd x3_1 x4_1) 127)))) ?hg ?ho ?hn ?hr ?_; (case ho => rfl); (case hg => rfl); (case hn => rfl); (case hr => first | (go_simp; done) | (go_simp; rfl)); intro w16 hw; have hg : wr.grownBy w16 (some go13) := (by rw [hw]; exact HP15.2); have hp_ : Kd.R (Kd.int .u8) 5 w16 w.heap.size (fun _ => True) (.slice (some ⟨go13, 0, none⟩) x3_1.length co14) y376 := (by rw [hw, Ny376.out]; exact HP15.1); clear HP15; have n0_ := Aside0.mk (hp_); have n1_ := Aside0.mk ((by rw [hw]; exact below_set (HB.out) GB13.out : Below w.heap.size w w16)); clear HO_3; clear HB; have HO_3 := n0_; have HB := n1_; clear n0_ n1_; clear hg hw hp_))
                go_roundg k1
                case measure => have := HK1.out; omega
                case rel => exact ⟨(y376), (wrap64 (x4_1 + 1)), (by first | rfl | (simp; done) | (simp [*]; done)), H', ⟨by have := HK1.out; omega⟩, ⟨by (with_reducible repeat (first | apply Kd.R_alloc | apply Kd.R_drewN | apply Kd.R_drew)); exact HO_3.out⟩, ⟨by repeat (first | (with_reducible first | exact HB.out | apply below_alloc | apply pw_below_drewN | apply below_drew1) | exact HB.out)⟩⟩
              · rw [if_neg c12] at H
                exact absurd H (by simp)
            · rw [if_neg c11] at H
              have c11b0 : decide (x4_1 < (x3_1.length : Int)) = false := decide_eq_false c11
              clear c11
              replace H := Option.bind_eq_some_iff.mp H
              obtain ⟨⟨t377, t378⟩, A170, H⟩ := H
              replace H : (if (t377.length : Int) = (x3_1.length : Int) then (interlocutorlaw3_FoldAscii.j1 k1 x3_1 t377 t378 ((t378.length : Int) != (wrap64 ((x3_1.length : Int) + 1)))) else (interlocutorlaw3_FoldAscii.j1 k1 x3_1 t377 t378 true)) = some r := H
              have A17 := Aside0.mk A170
              clear A170
              have HC18 := Aside0.mk H
              clear H
              obtain ⟨Ao19, co19, eo19⟩ := Kd.R_slice HO_3.out
              subst eo19
              have hcv20 := own_string (P := Try.prog) Try.underlying23 Try.underlying5 Try.underlying9 (Kd.own_of_R HO_3.out)
              go_upto_region 11 with (first | ((with_reducible refine gate_callee (f := 16) rfl ?_); refine goesL_ (some 34) rfl rfl Try.func16 (by kernel_rfl) rfl #[.string (strOfNums x3_1)] rfl (by (try simp only [List.map_toArray, List.map_cons, List.map_nil]); first | done | rfl | (simp only [List.length_drop, List.length_take]; rfl)) ?_; (with_reducible refine (fold_Fold.calls (strOfNums x3_1) t377 t378 _ A17.out).mono ?_); rintro e w21 ⟨v379, v381, rfl, ho0, ho1, hb⟩; refine ⟨_, rfl, ?_⟩; have n0_ := Aside0.mk (Kd.R_below (by (with_reducible repeat (first | apply Kd.R_alloc | apply Kd.R_drewN | apply Kd.R_drew)); exact HO_3.out) hb); have n1_ := Aside0.mk (Kd.R_lower ho0 (below_size (by repeat (first | (with_reducible first | exact HB.out | apply below_alloc | apply pw_below_drewN | apply below_drew1) | exact HB.out)))); have n2_ := Aside0.mk (Kd.R_lower ho1 (below_size (by repeat (first | (with_reducible first | exact HB.out | apply below_alloc | apply pw_below_drewN | apply below_drew1) | exact HB.out)))); have n3_ := Aside0.mk (below_step (by repeat (first | (with_reducible first | exact HB.out | apply below_alloc | apply pw_below_drewN | apply below_drew1) | exact HB.out)) hb); clear HO_3; clear HB; have HO_3 := n0_; have HO380 := n1_; have HO382 := n2_; have HB := n3_; clear n0_ n1_ n2_ n3_; (try clear hb); (try clear hb2); (try clear hk); (try clear hi); (try clear ho0); (try clear ho1)))
              (try simp only [Act.put, List.setIfInBounds_toArray, List.set_cons_zero, List.set_cons_succ])
              go_cut [49] (fun v49 wc => ∃ (kq : Nat) (x49_17 : Bool), v49 = .bool x49_17 ∧ Aside0 (interlocutorlaw3_FoldAscii.j1 kq x3_1 t377 t378 x49_17 = some r) ∧ Aside0 (kq ≤ k1) ∧ Aside0 (Kd.R (Kd.int .u8) 5 wc w.heap.size (fun _ => True) (.slice Ao19 x3_1.length co19) x3_1) ∧ Aside0 (Kd.R (Kd.int .i64) 3 wc w.heap.size (fun k_ => some k_ ≠ (v381 : Value).ownBlock) v379 t377) ∧ Aside0 (Kd.R (Kd.int .i64) 3 wc w.heap.size (fun k_ => some k_ ≠ (v379 : Value).ownBlock) v381 t378) ∧ Aside0 (Below w.heap.size w wc))
              case first =>
                have H := HC18.out
                clear HC18
                by_cases c22 : (t377.length : Int) = (x3_1.length : Int)
                · rw [if_pos c22] at H
                  have c22b0 : ((t377.length : Int) == (x3_1.length : Int)) = true := beq_iff_eq.mpr c22
                  have c22b1 : ((t377.length : Int) != (x3_1.length : Int)) = false := bne_eq_false_iff_eq.mpr c22
                  have c22b2 : (t377.length == x3_1.length) = true := by first | simpa using c22 | (simp at c22 ⊢; omega)
                  clear c22
                  (first | rw [c22b0] | (simp only [i64_w, i32_w]; rw [c22b0]) | skip)
                  have H' := Aside0.mk H
                  clear H
                  obtain ⟨Ao23, co23, eo23⟩ := Kd.R_slice HO380.out
                  subst eo23
                  obtain ⟨Ao24, co24, eo24⟩ := Kd.R_slice HO382.out
                  subst eo24
                  go_wp2
                  go_meet
                  case rel => exact ⟨_, (((t378.length : Int) != (wrap64 ((x3_1.length : Int) + 1)))), (by first | rfl | (simp; done) | (simp [*]; done)), H', ⟨by have := HK1.out; first | omega | exact Nat.le_refl _⟩, ⟨by (with_reducible repeat (first | apply Kd.R_alloc | apply Kd.R_drewN | apply Kd.R_drew)); exact HO_3.out⟩, ⟨by (with_reducible repeat (first | apply Kd.R_alloc | apply Kd.R_drewN | apply Kd.R_drew)); exact HO380.out⟩, ⟨by (with_reducible repeat (first | apply Kd.R_alloc | apply Kd.R_drewN | apply Kd.R_drew)); exact HO382.out⟩, ⟨by repeat (first | (with_reducible first | exact HB.out | apply below_alloc | apply pw_below_drewN | apply below_drew1) | exact HB.out)⟩⟩
                · rw [if_neg c22] at H
                  have c22b0 : ((t377.length : Int) == (x3_1.length : Int)) = false := beq_eq_false_iff_ne.mpr c22
                  have c22b1 : ((t377.length : Int) != (x3_1.length : Int)) = true := bne_iff_ne.mpr c22
                  have c22b2 : (t377.length == x3_1.length) = false := by first | simpa using c22 | (simp at c22 ⊢; omega)
                  (first | rw [c22b0] | (simp only [i64_w, i32_w]; rw [c22b0]) | skip)
                  have H' := Aside0.mk H
                  clear H
                  obtain ⟨Ao25, co25, eo25⟩ := Kd.R_slice HO380.out
                  subst eo25
                  go_wp2
                  go_meet
                  case rel => exact ⟨_, (true), (by first | rfl | (simp; done) | (simp [*]; done)), H', ⟨by have := HK1.out; first | omega | exact Nat.le_refl _⟩, ⟨by (with_reducible repeat (first | apply Kd.R_alloc | apply Kd.R_drewN | apply Kd.R_drew)); exact HO_3.out⟩, ⟨by (with_reducible repeat (first | apply Kd.R_alloc | apply Kd.R_drewN | apply Kd.R_drew)); exact HO380.out⟩, ⟨by (with_reducible repeat (first | apply Kd.R_alloc | apply Kd.R_drewN | apply Kd.R_drew)); exact HO382.out⟩, ⟨by repeat (first | (with_reducible first | exact HB.out | apply below_alloc | apply pw_below_drewN | apply below_drew1) | exact HB.out)⟩⟩
              case rest =>
                clear HC18
                try clear c1
                try clear p1
                try clear q1
                try clear hx1
                try clear hf1
                try clear c2
                try clear p2
                try clear hcv2
                try clear c3
                try clear p3
                try clear q3
                try clear hx3
                try clear c4
                try clear c4b0
                try clear c4b1
                try clear c6
                try clear p6
                try clear c9
                try clear c11
                try clear c11b0
                try clear c12
                try clear c12b0
                try clear p13
                try clear q13
                try clear hx13
                try clear hf13
                try clear c14
                try clear c16
                try clear hcv20
                try clear c22
                try clear c22b0
                try clear c22b1
                try clear c22b2
                try clear hx13_0
                try clear hx375_0
                try clear p13
                try clear p2
                try clear p375
                try clear q13
                try clear q375
                obtain ⟨kq, x49_17, rfl, HA, HJ17, HO_3, HO_5, HO_6, HB⟩ := hcut
                cases kq with
                | zero => exact absurd HA.out (by simp [interlocutorlaw3_FoldAscii.j1])
                | succ kj17 =>
                  have H := HA.out
                  clear HA
                  simp only [interlocutorlaw3_FoldAscii.j1] at H
                  by_cases c26 : x49_17 = true
                  · subst c26
                    have H1 : (some false) = some r := by rw [if_pos rfl] at H; exact H
                    clear H
                    have H := H1
                    clear H1
                    obtain rfl := Option.some.inj H
                    go_wp2
                    go_ret
                    exact ⟨by first | rfl | (simp [errW_none, errW_some] <;> rfl) | (simp [*, errW_none, errW_some] <;> rfl), by repeat (first | (with_reducible first | exact HB.out | apply below_alloc | apply pw_below_drewN | apply below_drew1) | exact HB.out)⟩
                  · replace c26 := Bool.eq_false_iff.mpr c26
                    subst c26
                    have H1 : (interlocutorlaw3_FoldAscii.l1 kj17 x3_1 t377 t378 0) = some r := by rw [if_neg (show ¬ (false = true) by decide)] at H; exact H
                    clear H
                    have H := H1
                    clear H1
                    have H' := Aside0.mk H
                    clear H
                    go_wp2
                    go_loopg [7] kj17 (fun kq v7 w' => ∃ (x7_3 : Int), v7 = .int .i64 x7_3 ∧ Aside0 (interlocutorlaw3_FoldAscii.l1 kq x3_1 t377 t378 x7_3 = some r) ∧ Aside0 (kq ≤ kj17) ∧ Aside0 (Kd.R (Kd.int .u8) 5 w' w.heap.size (fun _ => True) (.slice Ao19 x3_1.length co19) x3_1) ∧ Aside0 (Kd.R (Kd.int .i64) 3 w' w.heap.size (fun k_ => some k_ ≠ (v381 : Value).ownBlock) v379 t377) ∧ Aside0 (Kd.R (Kd.int .i64) 3 w' w.heap.size (fun k_ => some k_ ≠ (v379 : Value).ownBlock) v381 t378) ∧ Aside0 (Below w.heap.size w w'))
                    case atStart => exact ⟨(0), (by first | rfl | (simp; done) | (simp [*]; done)), H', ⟨Nat.le_refl _⟩, ⟨by (with_reducible repeat (first | apply Kd.R_alloc | apply Kd.R_drewN | apply Kd.R_drew)); exact HO_3.out⟩, ⟨by (with_reducible repeat (first | apply Kd.R_alloc | apply Kd.R_drewN | apply Kd.R_drew)); exact HO_5.out⟩, ⟨by (with_reducible repeat (first | apply Kd.R_alloc | apply Kd.R_drewN | apply Kd.R_drew)); exact HO_6.out⟩, ⟨by repeat (first | (with_reducible first | exact HB.out | apply below_alloc | apply pw_below_drewN | apply below_drew1) | exact HB.out)⟩⟩
                    case round =>
                      clear H'
                      try clear c1
                      try clear p1
                      try clear q1
                      try clear hx1
                      try clear hf1
                      try clear c2
                      try clear p2
                      try clear hcv2
                      try clear c3
                      try clear p3
                      try clear q3
                      try clear hx3
                      try clear c4
                      try clear c4b0
                      try clear c4b1
                      try clear c6
                      try clear p6
                      try clear c9
                      try clear c11
                      try clear c11b0
                      try clear c12
                      try clear c12b0
                      try clear p13
                      try clear q13
                      try clear hx13
                      try clear hf13
                      try clear c14
                      try clear c16
                      try clear hcv20
                      try clear c22
                      try clear c22b0
                      try clear c22b1
                      try clear c22b2
                      try clear c26
                      try clear hx13_0
                      try clear hx375_0
                      try clear p1
                      try clear p13
                      try clear p2
                      try clear p3
                      try clear p375
                      try clear p6
                      try clear q1
                      try clear q13
                      try clear q3
                      try clear q375
                      obtain ⟨x7_3, rfl, HA, HK3, HO_3, HO_5, HO_6, HB⟩ := hrel
                      cases gk with
                      | zero => exact absurd HA.out (by simp [interlocutorlaw3_FoldAscii.l1])
                      | succ k3 =>
                        have H := HA.out
                        clear HA
                        simp only [interlocutorlaw3_FoldAscii.l1] at H
                        by_cases c27 : x7_3 < (x3_1.length : Int)
                        · rw [if_pos c27] at H
                          have c27b0 : decide (x7_3 < (x3_1.length : Int)) = true := decide_eq_true c27
                          clear c27
                          by_cases c28 : 0 ≤ x7_3
                          · rw [if_pos c28] at H
                            have c28b0 : decide (0 ≤ x7_3) = true := decide_eq_true c28
                            clear c28
                            have HC29 := Aside0.mk H
                            clear H
                            have p383 : 0 ≤ (x7_3 : Int) := of_decide_eq_true (by first | (with_reducible assumption) | assumption)
                            have q383 : x7_3 < (x3_1.length : Int) := of_decide_eq_true (by first | (with_reducible assumption) | assumption)
                            obtain ⟨ad383, e383, hx383_0⟩ := Kd.at_int (Kd.R_reads' HO_3.out).2.2 x7_3 p383 q383
                            cases e383
                            replace p383 := eq_true p383
                            replace q383 := eq_true q383
                            go_upto_region 17 with (fail)
                            go_cut [66] (fun v66 wc => ∃ (kq : Nat) (x66_28 : Bool), v66 = .bool x66_28 ∧ Aside0 (interlocutorlaw3_FoldAscii.j3 kq x3_1 t377 t378 x7_3 (wrap64 (rd x3_1 x7_3)) x66_28 = some r) ∧ Aside0 (kq ≤ k3) ∧ Aside0 (Kd.R (Kd.int .u8) 5 wc w.heap.size (fun _ => True) (.slice (some ad383) x3_1.length co19) x3_1) ∧ Aside0 (Kd.R (Kd.int .i64) 3 wc w.heap.size (fun k_ => some k_ ≠ (v381 : Value).ownBlock) v379 t377) ∧ Aside0 (Kd.R (Kd.int .i64) 3 wc w.heap.size (fun k_ => some k_ ≠ (v379 : Value).ownBlock) v381 t378) ∧ Aside0 (Below w.heap.size w wc))
                            case first =>
                              have H := HC29.out
                              clear HC29
                              by_cases c30 : (wrap64 (rd x3_1 x7_3)) ≥ 65
                              · rw [if_pos c30] at H
                                have c30b0 : decide (65 ≤ (wrap64 (rd x3_1 x7_3))) = true := decide_eq_true c30
                                clear c30
                                (first | rw [c30b0] | (simp only [i64_w, i32_w]; rw [c30b0]) | skip)
                                have H' := Aside0.mk H
                                clear H
                                go_wp2
                                go_meet
                                case rel => exact ⟨_, (decide ((wrap64 (rd x3_1 x7_3)) ≤ 90)), (by first | rfl | (simp; done) | (simp [*]; done)), H', ⟨by have := HK1.out; have := HJ17.out; have := HK3.out; first | omega | exact Nat.le_refl _⟩, ⟨by (with_reducible repeat (first | apply Kd.R_alloc | apply Kd.R_drewN | apply Kd.R_drew)); exact HO_3.out⟩, ⟨by (with_reducible repeat (first | apply Kd.R_alloc | apply Kd.R_drewN | apply Kd.R_drew)); exact HO_5.out⟩, ⟨by (with_reducible repeat (first | apply Kd.R_alloc | apply Kd.R_drewN | apply Kd.R_drew)); exact HO_6.out⟩, ⟨by repeat (first | (with_reducible first | exact HB.out | apply below_alloc | apply pw_below_drewN | apply below_drew1) | exact HB.out)⟩⟩
                              · rw [if_neg c30] at H
                                have c30b0 : decide (65 ≤ (wrap64 (rd x3_1 x7_3))) = false := decide_eq_false c30
                                clear c30
                                (first | rw [c30b0] | (simp only [i64_w, i32_w]; rw [c30b0]) | skip)
                                have H' := Aside0.mk H
                                clear H
                                go_wp2
                                go_meet
                                case rel => exact ⟨_, (false), (by first | rfl | (simp; done) | (simp [*]; done)), H', ⟨by have := HK1.out; have := HJ17.out; have := HK3.out; first | omega | exact Nat.le_refl _⟩, ⟨by (with_reducible repeat (first | apply Kd.R_alloc | apply Kd.R_drewN | apply Kd.R_drew)); exact HO_3.out⟩, ⟨by (with_reducible repeat (first | apply Kd.R_alloc | apply Kd.R_drewN | apply Kd.R_drew)); exact HO_5.out⟩, ⟨by (with_reducible repeat (first | apply Kd.R_alloc | apply Kd.R_drewN | apply Kd.R_drew)); exact HO_6.out⟩, ⟨by repeat (first | (with_reducible first | exact HB.out | apply below_alloc | apply pw_below_drewN | apply below_drew1) | exact HB.out)⟩⟩
                            case rest =>
                              clear HC29
                              try clear c1
                              try clear p1
                              try clear q1
                              try clear hx1
                              try clear hf1
                              try clear c2
                              try clear p2
                              try clear hcv2
                              try clear c3
                              try clear p3
                              try clear q3
                              try clear hx3
                              try clear c4
                              try clear c4b0
                              try clear c4b1
                              try clear c6
                              try clear p6
                              try clear c9
                              try clear c11
                              try clear c11b0
                              try clear c12
                              try clear c12b0
                              try clear p13
                              try clear q13
                              try clear hx13
                              try clear hf13
                              try clear c14
                              try clear c16
                              try clear hcv20
                              try clear c22
                              try clear c22b0
                              try clear c22b1
                              try clear c22b2
                              try clear c26
                              try clear c27
                              try clear c27b0
                              try clear c28
                              try clear c28b0
                              try clear c30
                              try clear c30b0
                              try clear hx13_0
                              try clear hx375_0
                              try clear hx383_0
                              try clear p1
                              try clear p13
                              try clear p2
                              try clear p3
                              try clear p375
                              try clear p383
                              try clear p6
                              try clear q1
                              try clear q13
                              try clear q3
                              try clear q375
                              try clear q383
                              obtain ⟨kq, x66_28, rfl, HA, HJ28, HO_3, HO_5, HO_6, HB⟩ := hcut
                              cases kq with
                              | zero => exact absurd HA.out (by simp [interlocutorlaw3_FoldAscii.j3])
                              | succ kj28 =>
                                have H := HA.out
                                clear HA
                                simp only [interlocutorlaw3_FoldAscii.j3] at H
                                have HC31 := Aside0.mk H
                                clear H
                                go_upto_if 66 with (fail)
                                go_cut [8] (fun v8 wc => ∃ (kq : Nat) (x8_30 : Int), v8 = .int .i64 x8_30 ∧ Aside0 (interlocutorlaw3_FoldAscii.j4 kq x3_1 t377 t378 x7_3 x8_30 = some r) ∧ Aside0 (kq ≤ kj28) ∧ Aside0 (Kd.R (Kd.int .u8) 5 wc w.heap.size (fun _ => True) (.slice (some ad383) x3_1.length co19) x3_1) ∧ Aside0 (Kd.R (Kd.int .i64) 3 wc w.heap.size (fun k_ => some k_ ≠ (v381 : Value).ownBlock) v379 t377) ∧ Aside0 (Kd.R (Kd.int .i64) 3 wc w.heap.size (fun k_ => some k_ ≠ (v379 : Value).ownBlock) v381 t378) ∧ Aside0 (Below w.heap.size w wc))
                                case first =>
                                  have H := HC31.out
                                  clear HC31
                                  by_cases c32 : x66_28 = true
                                  · subst c32
                                    have H1 : (interlocutorlaw3_FoldAscii.j4 kj28 x3_1 t377 t378 x7_3 (wrap64 ((wrap64 (rd x3_1 x7_3)) + 32))) = some r := by rw [if_pos rfl] at H; exact H
                                    clear H
                                    have H := H1
                                    clear H1
                                    have H' := Aside0.mk H
                                    clear H
                                    go_wp2
                                    go_meet
                                    case rel => exact ⟨_, (wrap64 ((wrap64 (rd x3_1 x7_3)) + 32)), (by first | rfl | (simp; done) | (simp [*]; done)), H', ⟨by have := HK1.out; have := HJ17.out; have := HK3.out; have := HJ28.out; first | omega | exact Nat.le_refl _⟩, ⟨by (with_reducible repeat (first | apply Kd.R_alloc | apply Kd.R_drewN | apply Kd.R_drew)); exact HO_3.out⟩, ⟨by (with_reducible repeat (first | apply Kd.R_alloc | apply Kd.R_drewN | apply Kd.R_drew)); exact HO_5.out⟩, ⟨by (with_reducible repeat (first | apply Kd.R_alloc | apply Kd.R_drewN | apply Kd.R_drew)); exact HO_6.out⟩, ⟨by repeat (first | (with_reducible first | exact HB.out | apply below_alloc | apply pw_below_drewN | apply below_drew1) | exact HB.out)⟩⟩
                                  · replace c32 := Bool.eq_false_iff.mpr c32
                                    subst c32
                                    have H1 : (interlocutorlaw3_FoldAscii.j4 kj28 x3_1 t377 t378 x7_3 (wrap64 (rd x3_1 x7_3))) = some r := by rw [if_neg (show ¬ (false = true) by decide)] at H; exact H
                                    clear H
                                    have H := H1
                                    clear H1
                                    have H' := Aside0.mk H
                                    clear H
                                    go_wp2
                                    go_meet
                                    case rel => exact ⟨_, ((wrap64 (rd x3_1 x7_3))), (by first | rfl | (simp; done) | (simp [*]; done)), H', ⟨by have := HK1.out; have := HJ17.out; have := HK3.out; have := HJ28.out; first | omega | exact Nat.le_refl _⟩, ⟨by (with_reducible repeat (first | apply Kd.R_alloc | apply Kd.R_drewN | apply Kd.R_drew)); exact HO_3.out⟩, ⟨by (with_reducible repeat (first | apply Kd.R_alloc | apply Kd.R_drewN | apply Kd.R_drew)); exact HO_5.out⟩, ⟨by (with_reducible repeat (first | apply Kd.R_alloc | apply Kd.R_drewN | apply Kd.R_drew)); exact HO_6.out⟩, ⟨by repeat (first | (with_reducible first | exact HB.out | apply below_alloc | apply pw_below_drewN | apply below_drew1) | exact HB.out)⟩⟩
                                case rest =>
                                  clear HC31
                                  try clear c1
                                  try clear p1
                                  try clear q1
                                  try clear hx1
                                  try clear hf1
                                  try clear c2
                                  try clear p2
                                  try clear hcv2
                                  try clear c3
                                  try clear p3
                                  try clear q3
                                  try clear hx3
                                  try clear c4
                                  try clear c4b0
                                  try clear c4b1
                                  try clear c6
                                  try clear p6
                                  try clear c9
                                  try clear c11
                                  try clear c11b0
                                  try clear c12
                                  try clear c12b0
                                  try clear p13
                                  try clear q13
                                  try clear hx13
                                  try clear hf13
                                  try clear c14
                                  try clear c16
                                  try clear hcv20
                                  try clear c22
                                  try clear c22b0
                                  try clear c22b1
                                  try clear c22b2
                                  try clear c26
                                  try clear c27
                                  try clear c27b0
                                  try clear c28
                                  try clear c28b0
                                  try clear c30
                                  try clear c30b0
                                  try clear c32
                                  try clear hx13_0
                                  try clear hx375_0
                                  try clear hx383_0
                                  try clear p1
                                  try clear p13
                                  try clear p2
                                  try clear p3
                                  try clear p375
                                  try clear p383
                                  try clear p6
                                  try clear q1
                                  try clear q13
                                  try clear q3
                                  try clear q375
                                  try clear q383
                                  obtain ⟨kq, x8_30, rfl, HA, HJ30, HO_3, HO_5, HO_6, HB⟩ := hcut
                                  cases kq with
                                  | zero => exact absurd HA.out (by simp [interlocutorlaw3_FoldAscii.j4])
                                  | succ kj30 =>
                                    have H := HA.out
                                    clear HA
                                    simp only [interlocutorlaw3_FoldAscii.j4] at H
                                    by_cases c33 : x8_30 = 9
                                    · rw [if_pos c33] at H
                                      have c33b0 : (x8_30 == 9) = true := beq_iff_eq.mpr c33
                                      have c33b1 : (x8_30 != 9) = false := bne_eq_false_iff_eq.mpr c33
                                      clear c33
                                      by_cases c34 : 0 ≤ x7_3
                                      · rw [if_pos c34] at H
                                        have c34b0 : decide (0 ≤ x7_3) = true := decide_eq_true c34
                                        clear c34
                                        by_cases c35 : x7_3 < (t377.length : Int)
                                        · rw [if_pos c35] at H
                                          have c35b0 : decide (x7_3 < (t377.length : Int)) = true := decide_eq_true c35
                                          clear c35
                                          by_cases c36 : (rd t377 x7_3) = 32
                                          · rw [if_pos c36] at H
                                            have c36b0 : ((rd t377 x7_3) == 32) = true := beq_iff_eq.mpr c36
                                            have c36b1 : ((rd t377 x7_3) != 32) = false := bne_eq_false_iff_eq.mpr c36
                                            clear c36
                                            by_cases c37 : x7_3 < (t378.length : Int)
                                            · rw [if_pos c37] at H
                                              have c37b0 : decide (x7_3 < (t378.length : Int)) = true := decide_eq_true c37
                                              clear c37
                                              by_cases c38 : (rd t378 x7_3) = x7_3
                                              · rw [if_pos c38] at H
                                                have c38b0 : ((rd t378 x7_3) == x7_3) = true := beq_iff_eq.mpr c38
                                                have c38b1 : ((rd t378 x7_3) != x7_3) = false := bne_eq_false_iff_eq.mpr c38
                                                clear c38
                                                have H' := Aside0.mk H
                                                clear H
                                                obtain ⟨Ao39, co39, eo39⟩ := Kd.R_slice HO_5.out
                                                subst eo39
                                                have p384 : 0 ≤ (x7_3 : Int) := of_decide_eq_true (by first | (with_reducible assumption) | assumption)
                                                have q384 : x7_3 < (t377.length : Int) := of_decide_eq_true (by first | (with_reducible assumption) | assumption)
                                                obtain ⟨ad384, e384, hx384_0⟩ := Kd.at_int (Kd.R_reads' HO_5.out).2.2 x7_3 p384 q384
                                                cases e384
                                                replace p384 := eq_true p384
                                                replace q384 := eq_true q384
                                                obtain ⟨Ao40, co40, eo40⟩ := Kd.R_slice HO_6.out
                                                subst eo40
                                                have p385 : 0 ≤ (x7_3 : Int) := of_decide_eq_true (by first | (with_reducible assumption) | assumption)
                                                have q385 : x7_3 < (t378.length : Int) := of_decide_eq_true (by first | (with_reducible assumption) | assumption)
                                                obtain ⟨ad385, e385, hx385_0⟩ := Kd.at_int (Kd.R_reads' HO_6.out).2.2 x7_3 p385 q385
                                                cases e385
                                                replace p385 := eq_true p385
                                                replace q385 := eq_true q385
                                                go_wp2
                                                go_roundg kj30
                                                case measure => have := HK1.out; have := HJ17.out; have := HK3.out; have := HJ28.out; have := HJ30.out; omega
                                                case rel => exact ⟨(wrap64 (x7_3 + 1)), (by first | rfl | (simp; done) | (simp [*]; done)), H', ⟨by have := HK1.out; have := HJ17.out; have := HK3.out; have := HJ28.out; have := HJ30.out; omega⟩, ⟨by (with_reducible repeat (first | apply Kd.R_alloc | apply Kd.R_drewN | apply Kd.R_drew)); exact HO_3.out⟩, ⟨by (with_reducible repeat (first | apply Kd.R_alloc | apply Kd.R_drewN | apply Kd.R_drew)); exact HO_5.out⟩, ⟨by (with_reducible repeat (first | apply Kd.R_alloc | apply Kd.R_drewN | apply Kd.R_drew)); exact HO_6.out⟩, ⟨by repeat (first | (with_reducible first | exact HB.out | apply below_alloc | apply pw_below_drewN | apply below_drew1) | exact HB.out)⟩⟩
                                              · rw [if_neg c38] at H
                                                have c38b0 : ((rd t378 x7_3) == x7_3) = false := beq_eq_false_iff_ne.mpr c38
                                                have c38b1 : ((rd t378 x7_3) != x7_3) = true := bne_iff_ne.mpr c38
                                                obtain rfl := Option.some.inj H
                                                obtain ⟨Ao41, co41, eo41⟩ := Kd.R_slice HO_5.out
                                                subst eo41
                                                have p384 : 0 ≤ (x7_3 : Int) := of_decide_eq_true (by first | (with_reducible assumption) | assumption)
                                                have q384 : x7_3 < (t377.length : Int) := of_decide_eq_true (by first | (with_reducible assumption) | assumption)
                                                obtain ⟨ad384, e384, hx384_0⟩ := Kd.at_int (Kd.R_reads' HO_5.out).2.2 x7_3 p384 q384
                                                cases e384
                                                replace p384 := eq_true p384
                                                replace q384 := eq_true q384
                                                obtain ⟨Ao42, co42, eo42⟩ := Kd.R_slice HO_6.out
                                                subst eo42
                                                have p385 : 0 ≤ (x7_3 : Int) := of_decide_eq_true (by first | (with_reducible assumption) | assumption)
                                                have q385 : x7_3 < (t378.length : Int) := of_decide_eq_true (by first | (with_reducible assumption) | assumption)
                                                obtain ⟨ad385, e385, hx385_0⟩ := Kd.at_int (Kd.R_reads' HO_6.out).2.2 x7_3 p385 q385
                                                cases e385
                                                replace p385 := eq_true p385
                                                replace q385 := eq_true q385
                                                go_wp2
                                                go_ret
                                                exact ⟨by first | rfl | (simp [errW_none, errW_some] <;> rfl) | (simp [*, errW_none, errW_some] <;> rfl), by repeat (first | (with_reducible first | exact HB.out | apply below_alloc | apply pw_below_drewN | apply below_drew1) | exact HB.out)⟩
                                            · rw [if_neg c37] at H
                                              exact absurd H (by simp)
                                          · rw [if_neg c36] at H
                                            have c36b0 : ((rd t377 x7_3) == 32) = false := beq_eq_false_iff_ne.mpr c36
                                            have c36b1 : ((rd t377 x7_3) != 32) = true := bne_iff_ne.mpr c36
                                            obtain rfl := Option.some.inj H
                                            obtain ⟨Ao43, co43, eo43⟩ := Kd.R_slice HO_5.out
                                            subst eo43
                                            have p384 : 0 ≤ (x7_3 : Int) := of_decide_eq_true (by first | (with_reducible assumption) | assumption)
                                            have q384 : x7_3 < (t377.length : Int) := of_decide_eq_true (by first | (with_reducible assumption) | assumption)
                                            obtain ⟨ad384, e384, hx384_0⟩ := Kd.at_int (Kd.R_reads' HO_5.out).2.2 x7_3 p384 q384
                                            cases e384
                                            replace p384 := eq_true p384
                                            replace q384 := eq_true q384
                                            go_wp2
                                            go_ret
                                            exact ⟨by first | rfl | (simp [errW_none, errW_some] <;> rfl) | (simp [*, errW_none, errW_some] <;> rfl), by repeat (first | (with_reducible first | exact HB.out | apply below_alloc | apply pw_below_drewN | apply below_drew1) | exact HB.out)⟩
                                        · rw [if_neg c35] at H
                                          exact absurd H (by simp)
                                      · rw [if_neg c34] at H
                                        exact absurd H (by simp)
                                    · rw [if_neg c33] at H
                                      have c33b0 : (x8_30 == 9) = false := beq_eq_false_iff_ne.mpr c33
                                      have c33b1 : (x8_30 != 9) = true := bne_iff_ne.mpr c33
                                      by_cases c44 : 0 ≤ x7_3
                                      · rw [if_pos c44] at H
                                        have c44b0 : decide (0 ≤ x7_3) = true := decide_eq_true c44
                                        clear c44
                                        by_cases c45 : x7_3 < (t377.length : Int)
                                        · rw [if_pos c45] at H
                                          have c45b0 : decide (x7_3 < (t377.length : Int)) = true := decide_eq_true c45
                                          clear c45
                                          by_cases c46 : (rd t377 x7_3) = x8_30
                                          · rw [if_pos c46] at H
                                            have c46b0 : ((rd t377 x7_3) == x8_30) = true := beq_iff_eq.mpr c46
                                            have c46b1 : ((rd t377 x7_3) != x8_30) = false := bne_eq_false_iff_eq.mpr c46
                                            clear c46
                                            by_cases c47 : x7_3 < (t378.length : Int)
                                            · rw [if_pos c47] at H
                                              have c47b0 : decide (x7_3 < (t378.length : Int)) = true := decide_eq_true c47
                                              clear c47
                                              by_cases c48 : (rd t378 x7_3) = x7_3
                                              · rw [if_pos c48] at H
                                                have c48b0 : ((rd t378 x7_3) == x7_3) = true := beq_iff_eq.mpr c48
                                                have c48b1 : ((rd t378 x7_3) != x7_3) = false := bne_eq_false_iff_eq.mpr c48
                                                clear c48
                                                have H' := Aside0.mk H
                                                clear H
                                                obtain ⟨Ao49, co49, eo49⟩ := Kd.R_slice HO_5.out
                                                subst eo49
                                                have p386 : 0 ≤ (x7_3 : Int) := of_decide_eq_true (by first | (with_reducible assumption) | assumption)
                                                have q386 : x7_3 < (t377.length : Int) := of_decide_eq_true (by first | (with_reducible assumption) | assumption)
                                                obtain ⟨ad386, e386, hx386_0⟩ := Kd.at_int (Kd.R_reads' HO_5.out).2.2 x7_3 p386 q386
                                                cases e386
                                                replace p386 := eq_true p386
                                                replace q386 := eq_true q386
                                                obtain ⟨Ao50, co50, eo50⟩ := Kd.R_slice HO_6.out
                                                subst eo50
                                                have p387 : 0 ≤ (x7_3 : Int) := of_decide_eq_true (by first | (with_reducible assumption) | assumption)
                                                have q387 : x7_3 < (t378.length : Int) := of_decide_eq_true (by first | (with_reducible assumption) | assumption)
                                                obtain ⟨ad387, e387, hx387_0⟩ := Kd.at_int (Kd.R_reads' HO_6.out).2.2 x7_3 p387 q387
                                                cases e387
                                                replace p387 := eq_true p387
                                                replace q387 := eq_true q387
                                                go_wp2
                                                go_roundg kj30
                                                case measure => have := HK1.out; have := HJ17.out; have := HK3.out; have := HJ28.out; have := HJ30.out; omega
                                                case rel => exact ⟨(wrap64 (x7_3 + 1)), (by first | rfl | (simp; done) | (simp [*]; done)), H', ⟨by have := HK1.out; have := HJ17.out; have := HK3.out; have := HJ28.out; have := HJ30.out; omega⟩, ⟨by (with_reducible repeat (first | apply Kd.R_alloc | apply Kd.R_drewN | apply Kd.R_drew)); exact HO_3.out⟩, ⟨by (with_reducible repeat (first | apply Kd.R_alloc | apply Kd.R_drewN | apply Kd.R_drew)); exact HO_5.out⟩, ⟨by (with_reducible repeat (first | apply Kd.R_alloc | apply Kd.R_drewN | apply Kd.R_drew)); exact HO_6.out⟩, ⟨by repeat (first | (with_reducible first | exact HB.out | apply below_alloc | apply pw_below_drewN | apply below_drew1) | exact HB.out)⟩⟩
                                              · rw [if_neg c48] at H
                                                have c48b0 : ((rd t378 x7_3) == x7_3) = false := beq_eq_false_iff_ne.mpr c48
                                                have c48b1 : ((rd t378 x7_3) != x7_3) = true := bne_iff_ne.mpr c48
                                                obtain rfl := Option.some.inj H
                                                obtain ⟨Ao51, co51, eo51⟩ := Kd.R_slice HO_5.out
                                                subst eo51
                                                have p386 : 0 ≤ (x7_3 : Int) := of_decide_eq_true (by first | (with_reducible assumption) | assumption)
                                                have q386 : x7_3 < (t377.length : Int) := of_decide_eq_true (by first | (with_reducible assumption) | assumption)
                                                obtain ⟨ad386, e386, hx386_0⟩ := Kd.at_int (Kd.R_reads' HO_5.out).2.2 x7_3 p386 q386
                                                cases e386
                                                replace p386 := eq_true p386
                                                replace q386 := eq_true q386
                                                obtain ⟨Ao52, co52, eo52⟩ := Kd.R_slice HO_6.out
                                                subst eo52
                                                have p387 : 0 ≤ (x7_3 : Int) := of_decide_eq_true (by first | (with_reducible assumption) | assumption)
                                                have q387 : x7_3 < (t378.length : Int) := of_decide_eq_true (by first | (with_reducible assumption) | assumption)
                                                obtain ⟨ad387, e387, hx387_0⟩ := Kd.at_int (Kd.R_reads' HO_6.out).2.2 x7_3 p387 q387
                                                cases e387
                                                replace p387 := eq_true p387
                                                replace q387 := eq_true q387
                                                go_wp2
                                                go_ret
                                                exact ⟨by first | rfl | (simp [errW_none, errW_some] <;> rfl) | (simp [*, errW_none, errW_some] <;> rfl), by repeat (first | (with_reducible first | exact HB.out | apply below_alloc | apply pw_below_drewN | apply below_drew1) | exact HB.out)⟩
                                            · rw [if_neg c47] at H
                                              exact absurd H (by simp)
                                          · rw [if_neg c46] at H
                                            have c46b0 : ((rd t377 x7_3) == x8_30) = false := beq_eq_false_iff_ne.mpr c46
                                            have c46b1 : ((rd t377 x7_3) != x8_30) = true := bne_iff_ne.mpr c46
                                            obtain rfl := Option.some.inj H
                                            obtain ⟨Ao53, co53, eo53⟩ := Kd.R_slice HO_5.out
                                            subst eo53
                                            have p386 : 0 ≤ (x7_3 : Int) := of_decide_eq_true (by first | (with_reducible assumption) | assumption)
                                            have q386 : x7_3 < (t377.length : Int) := of_decide_eq_true (by first | (with_reducible assumption) | assumption)
                                            obtain ⟨ad386, e386, hx386_0⟩ := Kd.at_int (Kd.R_reads' HO_5.out).2.2 x7_3 p386 q386
                                            cases e386
                                            replace p386 := eq_true p386
                                            replace q386 := eq_true q386
                                            go_wp2
                                            go_ret
                                            exact ⟨by first | rfl | (simp [errW_none, errW_some] <;> rfl) | (simp [*, errW_none, errW_some] <;> rfl), by repeat (first | (with_reducible first | exact HB.out | apply below_alloc | apply pw_below_drewN | apply below_drew1) | exact HB.out)⟩
                                        · rw [if_neg c45] at H
                                          exact absurd H (by simp)
                                      · rw [if_neg c44] at H
                                        exact absurd H (by simp)
                          · rw [if_neg c28] at H
                            exact absurd H (by simp)
                        · rw [if_neg c27] at H
                          have c27b0 : decide (x7_3 < (x3_1.length : Int)) = false := decide_eq_false c27
                          clear c27
                          obtain rfl := Option.some.inj H
                          go_wp2
                          go_ret
                          exact ⟨by first | rfl | (simp [errW_none, errW_some] <;> rfl) | (simp [*, errW_none, errW_some] <;> rfl), by repeat (first | (with_reducible first | exact HB.out | apply below_alloc | apply pw_below_drewN | apply below_drew1) | exact HB.out)⟩
      · rw [if_neg c6] at H
        exact absurd H (by simp)
  · replace c3 := Bool.eq_false_iff.mpr c3
    subst c3
    have H1 : (some false) = some r := by rw [if_neg (show ¬ (false = true) by decide)] at H; exact H
    clear H
    have H := H1
    clear H1
    obtain rfl := Option.some.inj H
    go_enter Try.func9, Try.ntmps9
    go_wp2_with (first | ((with_reducible refine gate_callee (f := 14) rfl ?_); refine goesL_ (some 9) rfl rfl Try.func14 (by kernel_rfl) rfl #[] rfl (by (try simp only [List.map_toArray, List.map_cons, List.map_nil]); first | done | rfl | (simp only [List.length_drop, List.length_take]; rfl)) ?_; (with_reducible refine (interlocutorlaw3_known.calls k  false _ A2.out).mono ?_); rintro e w54 ⟨rfl, hb⟩; refine ⟨_, rfl, ?_⟩; have n0_ := Aside0.mk (below_step (by repeat (first | (with_reducible first | exact HB.out | apply below_alloc | apply pw_below_drewN | apply below_drew1) | exact HB.out)) hb); clear HB; have HB := n0_; clear n0_; (try clear hb); (try clear hb2); (try clear hk); (try clear hi)))
    go_ret
    exact ⟨by first | rfl | (simp [errW_none, errW_some] <;> rfl) | (simp [*, errW_none, errW_some] <;> rfl), by repeat (first | (with_reducible first | exact HB.out | apply below_alloc | apply pw_below_drewN | apply below_drew1) | exact HB.out)⟩

/-- THE ONE PURE STATEMENT of interlocutorlaw3_FoldAscii: yours. -/
def interlocutorlaw3_FoldAscii.Pure : Prop := ∀ (l0 : List Int), l0.length ≤ maxLen → l0.length * 1 ≤ 140737488351232 → (∀ x ∈ l0, (Lit.int .u8 x).wf = true) → ∃ k, interlocutorlaw3_FoldAscii.f k l0 = some true
theorem interlocutorlaw3_FoldAscii.walk (P : interlocutorlaw3_FoldAscii.Pure) (a0 : Option Addr) (len0 cap0 : Nat) (z0 : List Int) (w : World) (w0 : (a0 = none ∧ len0 = 0 ∧ cap0 = 0 ∧ z0 = []) ∨ ∃ x, a0 = some x ∧ len0 ≤ cap0 ∧ cap0 ≤ maxLen ∧ z0.length = cap0 ∧ (∀ i, i < z0.length → w.cell? (x.add i) = some (.int .u8 (z0.getD i 0))) ∧ ∀ n ∈ z0, (Lit.int .u8 n).wf = true) (y0 : len0 * 1 ≤ 140737488351232) :
    Calls Try.prog 9 #[.slice a0 len0 cap0] w fun e w' => e = .returned (.bool true) ∧ Below w.heap.size w w' := by
  obtain ⟨l0, rfl, hr0, hm0, hw0, hc0⟩ := ReadsInt.ofRowC w0
  obtain ⟨k, h⟩ := P l0 hm0 y0 hw0
  refine (interlocutorlaw3_FoldAscii.calls k _ _ l0 true w (Kd.C_of_reads (d := (0 : Int)) (h1 := fun _ => rfl) hr0) hc0 h).mono ?_
  rintro e w' ⟨rfl, hd⟩
  exact ⟨rfl, hd⟩

end Go.Proofs.Ytmpmjghhikdefaa.G
