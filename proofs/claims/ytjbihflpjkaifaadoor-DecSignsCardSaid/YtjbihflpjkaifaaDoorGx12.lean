-- printed by wip/tool/gprint.py, a program of this work, out of the translation; Lean checks it
import Derived.Test.YtjbihflpjkaifaaDoorGx0
import Derived.Test.YtjbihflpjkaifaaDoorGx3
import Derived.Test.YtjbihflpjkaifaaDoorGx6
import Derived.Test.YtjbihflpjkaifaaDoorGx7
import Derived.Test.YtjbihflpjkaifaaDoorGx8
namespace Go.Proofs.YtjbihflpjkaifaaDoor.G
open Go.RowKit Go.Proofs.YtjbihflpjkaifaaDoorW.PrintWords Go.Proofs.YtjbihflpjkaifaaDoorW.PrintLast Go.Proofs.YtjbihflpjkaifaaDoorW.PrintMore Go.Proofs.YtjbihflpjkaifaaDoorW.VWords Go.Proofs.YtjbihflpjkaifaaDoorW.Tab
attribute [local go_sem] max2_int min2_int max_two min_two max_three min_three max_four min_four   -- for this text's walks alone
set_option linter.unusedVariables false
set_option linter.unusedSimpArgs false

/-! ### interlocutorref2_order: function 35 -/
def interlocutorref2_order.f (a0 : Int) (a1 : Int) : Option (Int) := if a0 < a1 then (some (-1)) else (if a0 > a1 then (some 1) else (some 0))
set_option maxHeartbeats 8000000 in
set_option maxRecDepth 100000 in
theorem interlocutorref2_order.calls (a0 : Int) (a1 : Int) (r : Int) (w : World) (h : interlocutorref2_order.f a0 a1 = some r) :
    Calls Tryd.prog 35 #[.int .i64 a0, .int .i64 a1] w fun e w' => e = .returned (.int .i64 r) ∧ Drawn0 w w' := by
  have H : (if a0 < a1 then (some (-1)) else (if a0 > a1 then (some 1) else (some 0))) = some r := h
  clear h
  by_cases c3 : a0 < a1
  · rw [if_pos c3] at H
    have c3b0 : decide (a0 < a1) = true := decide_eq_true c3
    clear c3
    obtain rfl := Option.some.inj H
    go_enter Tryd.func35, Tryd.ntmps35
    go_wp2
    go_ret
    exact ⟨by first | rfl | (simp; done) | (simp [*]; done), by repeat (first | exact Drawn0.refl _ | apply Drawn0.step)⟩
  · rw [if_neg c3] at H
    have c3b0 : decide (a0 < a1) = false := decide_eq_false c3
    clear c3
    by_cases c4 : a0 > a1
    · rw [if_pos c4] at H
      have c4b0 : decide (a1 < a0) = true := decide_eq_true c4
      clear c4
      obtain rfl := Option.some.inj H
      go_enter Tryd.func35, Tryd.ntmps35
      go_wp2
      go_ret
      exact ⟨by first | rfl | (simp; done) | (simp [*]; done), by repeat (first | exact Drawn0.refl _ | apply Drawn0.step)⟩
    · rw [if_neg c4] at H
      have c4b0 : decide (a1 < a0) = false := decide_eq_false c4
      clear c4
      obtain rfl := Option.some.inj H
      go_enter Tryd.func35, Tryd.ntmps35
      go_wp2
      go_ret
      exact ⟨by first | rfl | (simp; done) | (simp [*]; done), by repeat (first | exact Drawn0.refl _ | apply Drawn0.step)⟩

/-! ### interlocutorref2_Cmp: function 23 -/
def interlocutorref2_Cmp.f (k : Nat) (a0 : Int) (a1 : Int) (a2 : Int) (a3 : Int) : Option (Int) := (interlocutorref2_Ten.f k a1).bind fun t172 => ((interlocutorref2_Ten.f k a3).bind fun t173 => (if t172 = 0 then (none) else (if t173 = 0 then (none) else ((interlocutorref2_order.f (wrap64 (Int.tdiv a0 t172)) (wrap64 (Int.tdiv a2 t173))).bind fun t174 => (if t174 = 0 then ((interlocutorref2_Ten.f k (wrap64 (18 - a1))).bind fun t175 => ((interlocutorref2_Ten.f k (wrap64 (18 - a3))).bind fun t176 => ((interlocutorref2_order.f (wrap64 ((Int.tmod a0 t172) * t175)) (wrap64 ((Int.tmod a2 t173) * t176))).bind fun t177 => (some t177)))) else (some t174))))))
theorem interlocutorref2_Cmp.mono : ∀ a0 a1 a2 a3 k, LeO (interlocutorref2_Cmp.f k a0 a1 a2 a3) (interlocutorref2_Cmp.f (k + 1) a0 a1 a2 a3) := by
  intro a0 a1 a2 a3 k
  unfold interlocutorref2_Cmp.f
  repeat' first
      | (with_reducible exact interlocutorref2_Ten.mono _ _)
      | (with_reducible exact LeO.refl _)
      | (with_reducible exact LeO.none _)
      | (with_reducible refine LeO.ite ?_ ?_)
      | (with_reducible refine LeO.bind ?_ (fun _ => ?_))
      | exact interlocutorref2_Ten.mono _ _
      | exact LeO.none _
      | refine LeO.ite ?_ ?_
      | refine LeO.bind ?_ (fun _ => ?_)
set_option maxHeartbeats 8000000 in
set_option maxRecDepth 100000 in
theorem interlocutorref2_Cmp.calls (k : Nat) (a0 : Int) (a1 : Int) (a2 : Int) (a3 : Int) (r : Int) (w : World) (h : interlocutorref2_Cmp.f k a0 a1 a2 a3 = some r) :
    Calls Tryd.prog 23 #[.int .i64 a0, .int .i64 a1, .int .i64 a2, .int .i64 a3] w fun e w' => e = .returned (.int .i64 r) ∧ Drawn0 w w' := by
  have H : ((interlocutorref2_Ten.f k a1).bind fun t172 => ((interlocutorref2_Ten.f k a3).bind fun t173 => (if t172 = 0 then (none) else (if t173 = 0 then (none) else ((interlocutorref2_order.f (wrap64 (Int.tdiv a0 t172)) (wrap64 (Int.tdiv a2 t173))).bind fun t174 => (if t174 = 0 then ((interlocutorref2_Ten.f k (wrap64 (18 - a1))).bind fun t175 => ((interlocutorref2_Ten.f k (wrap64 (18 - a3))).bind fun t176 => ((interlocutorref2_order.f (wrap64 ((Int.tmod a0 t172) * t175)) (wrap64 ((Int.tmod a2 t173) * t176))).bind fun t177 => (some t177)))) else (some t174))))))) = some r := h
  clear h
  replace H := Option.bind_eq_some_iff.mp H
  obtain ⟨t172, A50, H⟩ := H
  replace H : ((interlocutorref2_Ten.f k a3).bind fun t173 => (if t172 = 0 then (none) else (if t173 = 0 then (none) else ((interlocutorref2_order.f (wrap64 (Int.tdiv a0 t172)) (wrap64 (Int.tdiv a2 t173))).bind fun t174 => (if t174 = 0 then ((interlocutorref2_Ten.f k (wrap64 (18 - a1))).bind fun t175 => ((interlocutorref2_Ten.f k (wrap64 (18 - a3))).bind fun t176 => ((interlocutorref2_order.f (wrap64 ((Int.tmod a0 t172) * t175)) (wrap64 ((Int.tmod a2 t173) * t176))).bind fun t177 => (some t177)))) else (some t174)))))) = some r := H
  have A5 := Aside0.mk A50
  clear A50
  replace H := Option.bind_eq_some_iff.mp H
  obtain ⟨t173, A60, H⟩ := H
  replace H : (if t172 = 0 then (none) else (if t173 = 0 then (none) else ((interlocutorref2_order.f (wrap64 (Int.tdiv a0 t172)) (wrap64 (Int.tdiv a2 t173))).bind fun t174 => (if t174 = 0 then ((interlocutorref2_Ten.f k (wrap64 (18 - a1))).bind fun t175 => ((interlocutorref2_Ten.f k (wrap64 (18 - a3))).bind fun t176 => ((interlocutorref2_order.f (wrap64 ((Int.tmod a0 t172) * t175)) (wrap64 ((Int.tmod a2 t173) * t176))).bind fun t177 => (some t177)))) else (some t174))))) = some r := H
  have A6 := Aside0.mk A60
  clear A60
  by_cases c7 : t172 = 0
  · rw [if_pos c7] at H
    exact absurd H (by simp)
  · rw [if_neg c7] at H
    have c7b0 : (t172 == 0) = false := beq_eq_false_iff_ne.mpr c7
    have c7b1 : (t172 != 0) = true := bne_iff_ne.mpr c7
    by_cases c8 : t173 = 0
    · rw [if_pos c8] at H
      exact absurd H (by simp)
    · rw [if_neg c8] at H
      have c8b0 : (t173 == 0) = false := beq_eq_false_iff_ne.mpr c8
      have c8b1 : (t173 != 0) = true := bne_iff_ne.mpr c8
      replace H := Option.bind_eq_some_iff.mp H
      obtain ⟨t174, A90, H⟩ := H
      replace H : (if t174 = 0 then ((interlocutorref2_Ten.f k (wrap64 (18 - a1))).bind fun t175 => ((interlocutorref2_Ten.f k (wrap64 (18 - a3))).bind fun t176 => ((interlocutorref2_order.f (wrap64 ((Int.tmod a0 t172) * t175)) (wrap64 ((Int.tmod a2 t173) * t176))).bind fun t177 => (some t177)))) else (some t174)) = some r := H
      have A9 := Aside0.mk A90
      clear A90
      by_cases c10 : t174 = 0
      · rw [if_pos c10] at H
        have c10b0 : (t174 == 0) = true := beq_iff_eq.mpr c10
        have c10b1 : (t174 != 0) = false := bne_eq_false_iff_eq.mpr c10
        clear c10
        replace H := Option.bind_eq_some_iff.mp H
        obtain ⟨t175, A110, H⟩ := H
        replace H : ((interlocutorref2_Ten.f k (wrap64 (18 - a3))).bind fun t176 => ((interlocutorref2_order.f (wrap64 ((Int.tmod a0 t172) * t175)) (wrap64 ((Int.tmod a2 t173) * t176))).bind fun t177 => (some t177))) = some r := H
        have A11 := Aside0.mk A110
        clear A110
        replace H := Option.bind_eq_some_iff.mp H
        obtain ⟨t176, A120, H⟩ := H
        replace H : ((interlocutorref2_order.f (wrap64 ((Int.tmod a0 t172) * t175)) (wrap64 ((Int.tmod a2 t173) * t176))).bind fun t177 => (some t177)) = some r := H
        have A12 := Aside0.mk A120
        clear A120
        replace H := Option.bind_eq_some_iff.mp H
        obtain ⟨t177, A130, H⟩ := H
        replace H : (some t177) = some r := H
        have A13 := Aside0.mk A130
        clear A130
        obtain rfl := Option.some.inj H
        go_enter Tryd.func23, Tryd.ntmps23
        go_wp2_with (first | (go_at_call 24; (with_reducible refine (interlocutorref2_Ten.calls k a1 t172 _ A5.out).mono ?_); rintro e w' ⟨rfl, ⟨nd, rfl⟩⟩; (try first | exact ⟨rfl, _, World.drewN_drewN _ _ _⟩ | exact ⟨rfl, _, Eq.trans (World.drewN_drewN _ _ _) (congrArg (World.drewN _) (Nat.add_assoc _ _ _))⟩)) | (go_at_call 24; (with_reducible refine (interlocutorref2_Ten.calls k a3 t173 _ A6.out).mono ?_); rintro e w' ⟨rfl, ⟨nd, rfl⟩⟩; (try first | exact ⟨rfl, _, World.drewN_drewN _ _ _⟩ | exact ⟨rfl, _, Eq.trans (World.drewN_drewN _ _ _) (congrArg (World.drewN _) (Nat.add_assoc _ _ _))⟩)) | (go_at_call 35; (with_reducible refine (interlocutorref2_order.calls (wrap64 (Int.tdiv a0 t172)) (wrap64 (Int.tdiv a2 t173)) t174 _ A9.out).mono ?_); rintro e w' ⟨rfl, ⟨nd, rfl⟩⟩; (try first | exact ⟨rfl, _, World.drewN_drewN _ _ _⟩ | exact ⟨rfl, _, Eq.trans (World.drewN_drewN _ _ _) (congrArg (World.drewN _) (Nat.add_assoc _ _ _))⟩)) | (go_at_call 24; (with_reducible refine (interlocutorref2_Ten.calls k (wrap64 (18 - a1)) t175 _ A11.out).mono ?_); rintro e w' ⟨rfl, ⟨nd, rfl⟩⟩; (try first | exact ⟨rfl, _, World.drewN_drewN _ _ _⟩ | exact ⟨rfl, _, Eq.trans (World.drewN_drewN _ _ _) (congrArg (World.drewN _) (Nat.add_assoc _ _ _))⟩)) | (go_at_call 24; (with_reducible refine (interlocutorref2_Ten.calls k (wrap64 (18 - a3)) t176 _ A12.out).mono ?_); rintro e w' ⟨rfl, ⟨nd, rfl⟩⟩; (try first | exact ⟨rfl, _, World.drewN_drewN _ _ _⟩ | exact ⟨rfl, _, Eq.trans (World.drewN_drewN _ _ _) (congrArg (World.drewN _) (Nat.add_assoc _ _ _))⟩)) | (go_at_call 35; (with_reducible refine (interlocutorref2_order.calls (wrap64 ((Int.tmod a0 t172) * t175)) (wrap64 ((Int.tmod a2 t173) * t176)) t177 _ A13.out).mono ?_); rintro e w' ⟨rfl, ⟨nd, rfl⟩⟩; (try first | exact ⟨rfl, _, World.drewN_drewN _ _ _⟩ | exact ⟨rfl, _, Eq.trans (World.drewN_drewN _ _ _) (congrArg (World.drewN _) (Nat.add_assoc _ _ _))⟩)))
        repeat (go_quiet (first | (go_at_call 24; (with_reducible refine (interlocutorref2_Ten.calls k a1 t172 _ A5.out).mono ?_); rintro e w' ⟨rfl, ⟨nd, rfl⟩⟩; (try first | exact ⟨rfl, _, World.drewN_drewN _ _ _⟩ | exact ⟨rfl, _, Eq.trans (World.drewN_drewN _ _ _) (congrArg (World.drewN _) (Nat.add_assoc _ _ _))⟩)) | (go_at_call 24; (with_reducible refine (interlocutorref2_Ten.calls k a3 t173 _ A6.out).mono ?_); rintro e w' ⟨rfl, ⟨nd, rfl⟩⟩; (try first | exact ⟨rfl, _, World.drewN_drewN _ _ _⟩ | exact ⟨rfl, _, Eq.trans (World.drewN_drewN _ _ _) (congrArg (World.drewN _) (Nat.add_assoc _ _ _))⟩)) | (go_at_call 35; (with_reducible refine (interlocutorref2_order.calls (wrap64 (Int.tdiv a0 t172)) (wrap64 (Int.tdiv a2 t173)) t174 _ A9.out).mono ?_); rintro e w' ⟨rfl, ⟨nd, rfl⟩⟩; (try first | exact ⟨rfl, _, World.drewN_drewN _ _ _⟩ | exact ⟨rfl, _, Eq.trans (World.drewN_drewN _ _ _) (congrArg (World.drewN _) (Nat.add_assoc _ _ _))⟩)) | (go_at_call 24; (with_reducible refine (interlocutorref2_Ten.calls k (wrap64 (18 - a1)) t175 _ A11.out).mono ?_); rintro e w' ⟨rfl, ⟨nd, rfl⟩⟩; (try first | exact ⟨rfl, _, World.drewN_drewN _ _ _⟩ | exact ⟨rfl, _, Eq.trans (World.drewN_drewN _ _ _) (congrArg (World.drewN _) (Nat.add_assoc _ _ _))⟩)) | (go_at_call 24; (with_reducible refine (interlocutorref2_Ten.calls k (wrap64 (18 - a3)) t176 _ A12.out).mono ?_); rintro e w' ⟨rfl, ⟨nd, rfl⟩⟩; (try first | exact ⟨rfl, _, World.drewN_drewN _ _ _⟩ | exact ⟨rfl, _, Eq.trans (World.drewN_drewN _ _ _) (congrArg (World.drewN _) (Nat.add_assoc _ _ _))⟩)) | (go_at_call 35; (with_reducible refine (interlocutorref2_order.calls (wrap64 ((Int.tmod a0 t172) * t175)) (wrap64 ((Int.tmod a2 t173) * t176)) t177 _ A13.out).mono ?_); rintro e w' ⟨rfl, ⟨nd, rfl⟩⟩; (try first | exact ⟨rfl, _, World.drewN_drewN _ _ _⟩ | exact ⟨rfl, _, Eq.trans (World.drewN_drewN _ _ _) (congrArg (World.drewN _) (Nat.add_assoc _ _ _))⟩))); try go_wp2_with (first | (go_at_call 24; (with_reducible refine (interlocutorref2_Ten.calls k a1 t172 _ A5.out).mono ?_); rintro e w' ⟨rfl, ⟨nd, rfl⟩⟩; (try first | exact ⟨rfl, _, World.drewN_drewN _ _ _⟩ | exact ⟨rfl, _, Eq.trans (World.drewN_drewN _ _ _) (congrArg (World.drewN _) (Nat.add_assoc _ _ _))⟩)) | (go_at_call 24; (with_reducible refine (interlocutorref2_Ten.calls k a3 t173 _ A6.out).mono ?_); rintro e w' ⟨rfl, ⟨nd, rfl⟩⟩; (try first | exact ⟨rfl, _, World.drewN_drewN _ _ _⟩ | exact ⟨rfl, _, Eq.trans (World.drewN_drewN _ _ _) (congrArg (World.drewN _) (Nat.add_assoc _ _ _))⟩)) | (go_at_call 35; (with_reducible refine (interlocutorref2_order.calls (wrap64 (Int.tdiv a0 t172)) (wrap64 (Int.tdiv a2 t173)) t174 _ A9.out).mono ?_); rintro e w' ⟨rfl, ⟨nd, rfl⟩⟩; (try first | exact ⟨rfl, _, World.drewN_drewN _ _ _⟩ | exact ⟨rfl, _, Eq.trans (World.drewN_drewN _ _ _) (congrArg (World.drewN _) (Nat.add_assoc _ _ _))⟩)) | (go_at_call 24; (with_reducible refine (interlocutorref2_Ten.calls k (wrap64 (18 - a1)) t175 _ A11.out).mono ?_); rintro e w' ⟨rfl, ⟨nd, rfl⟩⟩; (try first | exact ⟨rfl, _, World.drewN_drewN _ _ _⟩ | exact ⟨rfl, _, Eq.trans (World.drewN_drewN _ _ _) (congrArg (World.drewN _) (Nat.add_assoc _ _ _))⟩)) | (go_at_call 24; (with_reducible refine (interlocutorref2_Ten.calls k (wrap64 (18 - a3)) t176 _ A12.out).mono ?_); rintro e w' ⟨rfl, ⟨nd, rfl⟩⟩; (try first | exact ⟨rfl, _, World.drewN_drewN _ _ _⟩ | exact ⟨rfl, _, Eq.trans (World.drewN_drewN _ _ _) (congrArg (World.drewN _) (Nat.add_assoc _ _ _))⟩)) | (go_at_call 35; (with_reducible refine (interlocutorref2_order.calls (wrap64 ((Int.tmod a0 t172) * t175)) (wrap64 ((Int.tmod a2 t173) * t176)) t177 _ A13.out).mono ?_); rintro e w' ⟨rfl, ⟨nd, rfl⟩⟩; (try first | exact ⟨rfl, _, World.drewN_drewN _ _ _⟩ | exact ⟨rfl, _, Eq.trans (World.drewN_drewN _ _ _) (congrArg (World.drewN _) (Nat.add_assoc _ _ _))⟩))))
        go_ret
        exact ⟨by first | rfl | (simp; done) | (simp [*]; done), by repeat (first | exact Drawn0.refl _ | apply Drawn0.step)⟩
      · rw [if_neg c10] at H
        have c10b0 : (t174 == 0) = false := beq_eq_false_iff_ne.mpr c10
        have c10b1 : (t174 != 0) = true := bne_iff_ne.mpr c10
        obtain rfl := Option.some.inj H
        go_enter Tryd.func23, Tryd.ntmps23
        go_wp2_with (first | (go_at_call 24; (with_reducible refine (interlocutorref2_Ten.calls k a1 t172 _ A5.out).mono ?_); rintro e w' ⟨rfl, ⟨nd, rfl⟩⟩; (try first | exact ⟨rfl, _, World.drewN_drewN _ _ _⟩ | exact ⟨rfl, _, Eq.trans (World.drewN_drewN _ _ _) (congrArg (World.drewN _) (Nat.add_assoc _ _ _))⟩)) | (go_at_call 24; (with_reducible refine (interlocutorref2_Ten.calls k a3 t173 _ A6.out).mono ?_); rintro e w' ⟨rfl, ⟨nd, rfl⟩⟩; (try first | exact ⟨rfl, _, World.drewN_drewN _ _ _⟩ | exact ⟨rfl, _, Eq.trans (World.drewN_drewN _ _ _) (congrArg (World.drewN _) (Nat.add_assoc _ _ _))⟩)) | (go_at_call 35; (with_reducible refine (interlocutorref2_order.calls (wrap64 (Int.tdiv a0 t172)) (wrap64 (Int.tdiv a2 t173)) t174 _ A9.out).mono ?_); rintro e w' ⟨rfl, ⟨nd, rfl⟩⟩; (try first | exact ⟨rfl, _, World.drewN_drewN _ _ _⟩ | exact ⟨rfl, _, Eq.trans (World.drewN_drewN _ _ _) (congrArg (World.drewN _) (Nat.add_assoc _ _ _))⟩)))
        repeat (go_quiet (first | (go_at_call 24; (with_reducible refine (interlocutorref2_Ten.calls k a1 t172 _ A5.out).mono ?_); rintro e w' ⟨rfl, ⟨nd, rfl⟩⟩; (try first | exact ⟨rfl, _, World.drewN_drewN _ _ _⟩ | exact ⟨rfl, _, Eq.trans (World.drewN_drewN _ _ _) (congrArg (World.drewN _) (Nat.add_assoc _ _ _))⟩)) | (go_at_call 24; (with_reducible refine (interlocutorref2_Ten.calls k a3 t173 _ A6.out).mono ?_); rintro e w' ⟨rfl, ⟨nd, rfl⟩⟩; (try first | exact ⟨rfl, _, World.drewN_drewN _ _ _⟩ | exact ⟨rfl, _, Eq.trans (World.drewN_drewN _ _ _) (congrArg (World.drewN _) (Nat.add_assoc _ _ _))⟩)) | (go_at_call 35; (with_reducible refine (interlocutorref2_order.calls (wrap64 (Int.tdiv a0 t172)) (wrap64 (Int.tdiv a2 t173)) t174 _ A9.out).mono ?_); rintro e w' ⟨rfl, ⟨nd, rfl⟩⟩; (try first | exact ⟨rfl, _, World.drewN_drewN _ _ _⟩ | exact ⟨rfl, _, Eq.trans (World.drewN_drewN _ _ _) (congrArg (World.drewN _) (Nat.add_assoc _ _ _))⟩))); try go_wp2_with (first | (go_at_call 24; (with_reducible refine (interlocutorref2_Ten.calls k a1 t172 _ A5.out).mono ?_); rintro e w' ⟨rfl, ⟨nd, rfl⟩⟩; (try first | exact ⟨rfl, _, World.drewN_drewN _ _ _⟩ | exact ⟨rfl, _, Eq.trans (World.drewN_drewN _ _ _) (congrArg (World.drewN _) (Nat.add_assoc _ _ _))⟩)) | (go_at_call 24; (with_reducible refine (interlocutorref2_Ten.calls k a3 t173 _ A6.out).mono ?_); rintro e w' ⟨rfl, ⟨nd, rfl⟩⟩; (try first | exact ⟨rfl, _, World.drewN_drewN _ _ _⟩ | exact ⟨rfl, _, Eq.trans (World.drewN_drewN _ _ _) (congrArg (World.drewN _) (Nat.add_assoc _ _ _))⟩)) | (go_at_call 35; (with_reducible refine (interlocutorref2_order.calls (wrap64 (Int.tdiv a0 t172)) (wrap64 (Int.tdiv a2 t173)) t174 _ A9.out).mono ?_); rintro e w' ⟨rfl, ⟨nd, rfl⟩⟩; (try first | exact ⟨rfl, _, World.drewN_drewN _ _ _⟩ | exact ⟨rfl, _, Eq.trans (World.drewN_drewN _ _ _) (congrArg (World.drewN _) (Nat.add_assoc _ _ _))⟩))))
        go_ret
        exact ⟨by first | rfl | (simp; done) | (simp [*]; done), by repeat (first | exact Drawn0.refl _ | apply Drawn0.step)⟩

/-! ### interlocutorlaw2_DecOrders: function 6 -/
def interlocutorlaw2_DecOrders.f (k : Nat) (a0 : Int) (a1 : Int) (a2 : Int) (a3 : Int) (a4 : Int) (a5 : Int) : Option (Bool) := (interlocutorlaw2_known.f k).bind fun t178 => (if t178 = true then ((interlocutorlaw2_Make.f k a0 a1).bind fun bt179 => ((interlocutorlaw2_Make.f k a2 a3).bind fun bt181 => ((interlocutorlaw2_Make.f k a4 a5).bind fun bt183 => ((dec_Cmp.f k bt179.1 bt179.2 bt181.1 bt181.2).bind fun t185 => ((interlocutorref2_Cmp.f k bt179.1 bt179.2 bt181.1 bt181.2).bind fun t186 => (if t185 = t186 then ((dec_Cmp.f k bt181.1 bt181.2 bt179.1 bt179.2).bind fun t187 => (if t187 = (wrap64 (-t185)) then (if t185 > 0 then (some true) else ((dec_Cmp.f k bt181.1 bt181.2 bt183.1 bt183.2).bind fun t188 => (if t188 > 0 then (some true) else ((dec_Cmp.f k bt179.1 bt179.2 bt183.1 bt183.2).bind fun t189 => (some (decide (t189 ≤ 0))))))) else (some false))) else (some false))))))) else (some false))
theorem interlocutorlaw2_DecOrders.mono : ∀ a0 a1 a2 a3 a4 a5 k, LeO (interlocutorlaw2_DecOrders.f k a0 a1 a2 a3 a4 a5) (interlocutorlaw2_DecOrders.f (k + 1) a0 a1 a2 a3 a4 a5) := by
  intro a0 a1 a2 a3 a4 a5 k
  unfold interlocutorlaw2_DecOrders.f
  repeat' first
      | (with_reducible exact dec_Cmp.mono _ _ _ _ _)
      | (with_reducible exact interlocutorlaw2_Make.mono _ _ _)
      | (with_reducible exact interlocutorlaw2_known.mono _)
      | (with_reducible exact interlocutorref2_Cmp.mono _ _ _ _ _)
      | (with_reducible exact LeO.refl _)
      | (with_reducible exact LeO.none _)
      | (with_reducible refine LeO.ite ?_ ?_)
      | (with_reducible refine LeO.bind ?_ (fun _ => ?_))
      | exact dec_Cmp.mono _ _ _ _ _
      | exact interlocutorlaw2_Make.mono _ _ _
      | exact interlocutorlaw2_known.mono _
      | exact interlocutorref2_Cmp.mono _ _ _ _ _
      | exact LeO.none _
      | refine LeO.ite ?_ ?_
      | refine LeO.bind ?_ (fun _ => ?_)
set_option maxHeartbeats 8000000 in
set_option maxRecDepth 100000 in
theorem interlocutorlaw2_DecOrders.calls (k : Nat) (a0 : Int) (a1 : Int) (a2 : Int) (a3 : Int) (a4 : Int) (a5 : Int) (r : Bool) (w : World) (h : interlocutorlaw2_DecOrders.f k a0 a1 a2 a3 a4 a5 = some r) (hT_ : TabOK w) :
    Calls Tryd.prog 6 #[.int .i64 a0, .int .i64 a1, .int .i64 a2, .int .i64 a3, .int .i64 a4, .int .i64 a5] w fun e w' => e = .returned (.bool r) ∧ Below w.heap.size w w' := by
  have HT_ := Aside0.mk hT_
  clear hT_
  have HB := Aside0.mk (Below.refl w.heap.size w)
  have H : ((interlocutorlaw2_known.f k).bind fun t178 => (if t178 = true then ((interlocutorlaw2_Make.f k a0 a1).bind fun bt179 => ((interlocutorlaw2_Make.f k a2 a3).bind fun bt181 => ((interlocutorlaw2_Make.f k a4 a5).bind fun bt183 => ((dec_Cmp.f k bt179.1 bt179.2 bt181.1 bt181.2).bind fun t185 => ((interlocutorref2_Cmp.f k bt179.1 bt179.2 bt181.1 bt181.2).bind fun t186 => (if t185 = t186 then ((dec_Cmp.f k bt181.1 bt181.2 bt179.1 bt179.2).bind fun t187 => (if t187 = (wrap64 (-t185)) then (if t185 > 0 then (some true) else ((dec_Cmp.f k bt181.1 bt181.2 bt183.1 bt183.2).bind fun t188 => (if t188 > 0 then (some true) else ((dec_Cmp.f k bt179.1 bt179.2 bt183.1 bt183.2).bind fun t189 => (some (decide (t189 ≤ 0))))))) else (some false))) else (some false))))))) else (some false))) = some r := h
  clear h
  replace H := Option.bind_eq_some_iff.mp H
  obtain ⟨t178, A70, H⟩ := H
  replace H : (if t178 = true then ((interlocutorlaw2_Make.f k a0 a1).bind fun bt179 => ((interlocutorlaw2_Make.f k a2 a3).bind fun bt181 => ((interlocutorlaw2_Make.f k a4 a5).bind fun bt183 => ((dec_Cmp.f k bt179.1 bt179.2 bt181.1 bt181.2).bind fun t185 => ((interlocutorref2_Cmp.f k bt179.1 bt179.2 bt181.1 bt181.2).bind fun t186 => (if t185 = t186 then ((dec_Cmp.f k bt181.1 bt181.2 bt179.1 bt179.2).bind fun t187 => (if t187 = (wrap64 (-t185)) then (if t185 > 0 then (some true) else ((dec_Cmp.f k bt181.1 bt181.2 bt183.1 bt183.2).bind fun t188 => (if t188 > 0 then (some true) else ((dec_Cmp.f k bt179.1 bt179.2 bt183.1 bt183.2).bind fun t189 => (some (decide (t189 ≤ 0))))))) else (some false))) else (some false))))))) else (some false)) = some r := H
  have A7 := Aside0.mk A70
  clear A70
  by_cases c8 : t178 = true
  · subst c8
    have H1 : ((interlocutorlaw2_Make.f k a0 a1).bind fun bt179 => ((interlocutorlaw2_Make.f k a2 a3).bind fun bt181 => ((interlocutorlaw2_Make.f k a4 a5).bind fun bt183 => ((dec_Cmp.f k bt179.1 bt179.2 bt181.1 bt181.2).bind fun t185 => ((interlocutorref2_Cmp.f k bt179.1 bt179.2 bt181.1 bt181.2).bind fun t186 => (if t185 = t186 then ((dec_Cmp.f k bt181.1 bt181.2 bt179.1 bt179.2).bind fun t187 => (if t187 = (wrap64 (-t185)) then (if t185 > 0 then (some true) else ((dec_Cmp.f k bt181.1 bt181.2 bt183.1 bt183.2).bind fun t188 => (if t188 > 0 then (some true) else ((dec_Cmp.f k bt179.1 bt179.2 bt183.1 bt183.2).bind fun t189 => (some (decide (t189 ≤ 0))))))) else (some false))) else (some false))))))) = some r := by rw [if_pos rfl] at H; exact H
    clear H
    have H := H1
    clear H1
    replace H := Option.bind_eq_some_iff.mp H
    obtain ⟨⟨t179, t180⟩, A90, H⟩ := H
    replace H : ((interlocutorlaw2_Make.f k a2 a3).bind fun bt181 => ((interlocutorlaw2_Make.f k a4 a5).bind fun bt183 => ((dec_Cmp.f k t179 t180 bt181.1 bt181.2).bind fun t185 => ((interlocutorref2_Cmp.f k t179 t180 bt181.1 bt181.2).bind fun t186 => (if t185 = t186 then ((dec_Cmp.f k bt181.1 bt181.2 t179 t180).bind fun t187 => (if t187 = (wrap64 (-t185)) then (if t185 > 0 then (some true) else ((dec_Cmp.f k bt181.1 bt181.2 bt183.1 bt183.2).bind fun t188 => (if t188 > 0 then (some true) else ((dec_Cmp.f k t179 t180 bt183.1 bt183.2).bind fun t189 => (some (decide (t189 ≤ 0))))))) else (some false))) else (some false)))))) = some r := H
    have A9 := Aside0.mk A90
    clear A90
    replace H := Option.bind_eq_some_iff.mp H
    obtain ⟨⟨t181, t182⟩, A100, H⟩ := H
    replace H : ((interlocutorlaw2_Make.f k a4 a5).bind fun bt183 => ((dec_Cmp.f k t179 t180 t181 t182).bind fun t185 => ((interlocutorref2_Cmp.f k t179 t180 t181 t182).bind fun t186 => (if t185 = t186 then ((dec_Cmp.f k t181 t182 t179 t180).bind fun t187 => (if t187 = (wrap64 (-t185)) then (if t185 > 0 then (some true) else ((dec_Cmp.f k t181 t182 bt183.1 bt183.2).bind fun t188 => (if t188 > 0 then (some true) else ((dec_Cmp.f k t179 t180 bt183.1 bt183.2).bind fun t189 => (some (decide (t189 ≤ 0))))))) else (some false))) else (some false))))) = some r := H
    have A10 := Aside0.mk A100
    clear A100
    replace H := Option.bind_eq_some_iff.mp H
    obtain ⟨⟨t183, t184⟩, A110, H⟩ := H
    replace H : ((dec_Cmp.f k t179 t180 t181 t182).bind fun t185 => ((interlocutorref2_Cmp.f k t179 t180 t181 t182).bind fun t186 => (if t185 = t186 then ((dec_Cmp.f k t181 t182 t179 t180).bind fun t187 => (if t187 = (wrap64 (-t185)) then (if t185 > 0 then (some true) else ((dec_Cmp.f k t181 t182 t183 t184).bind fun t188 => (if t188 > 0 then (some true) else ((dec_Cmp.f k t179 t180 t183 t184).bind fun t189 => (some (decide (t189 ≤ 0))))))) else (some false))) else (some false)))) = some r := H
    have A11 := Aside0.mk A110
    clear A110
    replace H := Option.bind_eq_some_iff.mp H
    obtain ⟨t185, A120, H⟩ := H
    replace H : ((interlocutorref2_Cmp.f k t179 t180 t181 t182).bind fun t186 => (if t185 = t186 then ((dec_Cmp.f k t181 t182 t179 t180).bind fun t187 => (if t187 = (wrap64 (-t185)) then (if t185 > 0 then (some true) else ((dec_Cmp.f k t181 t182 t183 t184).bind fun t188 => (if t188 > 0 then (some true) else ((dec_Cmp.f k t179 t180 t183 t184).bind fun t189 => (some (decide (t189 ≤ 0))))))) else (some false))) else (some false))) = some r := H
    have A12 := Aside0.mk A120
    clear A120
    replace H := Option.bind_eq_some_iff.mp H
    obtain ⟨t186, A130, H⟩ := H
    replace H : (if t185 = t186 then ((dec_Cmp.f k t181 t182 t179 t180).bind fun t187 => (if t187 = (wrap64 (-t185)) then (if t185 > 0 then (some true) else ((dec_Cmp.f k t181 t182 t183 t184).bind fun t188 => (if t188 > 0 then (some true) else ((dec_Cmp.f k t179 t180 t183 t184).bind fun t189 => (some (decide (t189 ≤ 0))))))) else (some false))) else (some false)) = some r := H
    have A13 := Aside0.mk A130
    clear A130
    by_cases c14 : t185 = t186
    · rw [if_pos c14] at H
      have c14b0 : (t185 == t186) = true := beq_iff_eq.mpr c14
      have c14b1 : (t185 != t186) = false := bne_eq_false_iff_eq.mpr c14
      clear c14
      replace H := Option.bind_eq_some_iff.mp H
      obtain ⟨t187, A150, H⟩ := H
      replace H : (if t187 = (wrap64 (-t185)) then (if t185 > 0 then (some true) else ((dec_Cmp.f k t181 t182 t183 t184).bind fun t188 => (if t188 > 0 then (some true) else ((dec_Cmp.f k t179 t180 t183 t184).bind fun t189 => (some (decide (t189 ≤ 0))))))) else (some false)) = some r := H
      have A15 := Aside0.mk A150
      clear A150
      by_cases c16 : t187 = (wrap64 (-t185))
      · rw [if_pos c16] at H
        have c16b0 : (t187 == (wrap64 (-t185))) = true := beq_iff_eq.mpr c16
        have c16b1 : (t187 != (wrap64 (-t185))) = false := bne_eq_false_iff_eq.mpr c16
        clear c16
        by_cases c17 : t185 > 0
        · rw [if_pos c17] at H
          have c17b0 : decide (0 < t185) = true := decide_eq_true c17
          clear c17
          obtain rfl := Option.some.inj H
          go_enter Tryd.func6, Tryd.ntmps6
          go_wp2_with (first | ((with_reducible refine gate_callee (f := 13) rfl ?_); refine goesL_ (some 20) rfl rfl Tryd.func13 (by kernel_rfl) rfl #[] rfl (by (try simp only [List.map_toArray, List.map_cons, List.map_nil]); first | done | rfl | (simp only [List.length_drop, List.length_take]; rfl)) ?_; (with_reducible refine (interlocutorlaw2_known.calls k  true _ A7.out ?hT_).mono ?_); (case hT_ => first | exact HT_.out | exact tab_below HT_.out (by repeat (first | (with_reducible first | exact HB.out | apply below_alloc | apply pw_below_drewN | apply below_drew1) | exact HB.out))); rintro e w18 ⟨rfl, hb⟩; refine ⟨_, rfl, ?_⟩; have n0_ := Aside0.mk (below_step (by repeat (first | (with_reducible first | exact HB.out | apply below_alloc | apply pw_below_drewN | apply below_drew1) | exact HB.out)) hb); clear HB; have HB := n0_; clear n0_; (try clear hb); (try clear hb2); (try clear hk); (try clear hi)) | ((with_reducible refine gate_callee (f := 14) rfl ?_); refine goesL_ (some 25) rfl rfl Tryd.func14 (by kernel_rfl) rfl #[.int .i64 a0, .int .i64 a1] rfl (by (try simp only [List.map_toArray, List.map_cons, List.map_nil]); first | done | rfl | (simp only [List.length_drop, List.length_take]; rfl)) ?_; (with_reducible refine (interlocutorlaw2_Make.calls k a0 a1 t179 t180 _ A9.out).mono ?_); rintro e w' ⟨rfl, ⟨nd, rfl⟩⟩; refine ⟨_, rfl, ?_⟩) | ((with_reducible refine gate_callee (f := 14) rfl ?_); refine goesL_ (some 31) rfl rfl Tryd.func14 (by kernel_rfl) rfl #[.int .i64 a2, .int .i64 a3] rfl (by (try simp only [List.map_toArray, List.map_cons, List.map_nil]); first | done | rfl | (simp only [List.length_drop, List.length_take]; rfl)) ?_; (with_reducible refine (interlocutorlaw2_Make.calls k a2 a3 t181 t182 _ A10.out).mono ?_); rintro e w' ⟨rfl, ⟨nd, rfl⟩⟩; refine ⟨_, rfl, ?_⟩) | ((with_reducible refine gate_callee (f := 14) rfl ?_); refine goesL_ (some 37) rfl rfl Tryd.func14 (by kernel_rfl) rfl #[.int .i64 a4, .int .i64 a5] rfl (by (try simp only [List.map_toArray, List.map_cons, List.map_nil]); first | done | rfl | (simp only [List.length_drop, List.length_take]; rfl)) ?_; (with_reducible refine (interlocutorlaw2_Make.calls k a4 a5 t183 t184 _ A11.out).mono ?_); rintro e w' ⟨rfl, ⟨nd, rfl⟩⟩; refine ⟨_, rfl, ?_⟩) | ((with_reducible refine gate_callee (f := 17) rfl ?_); refine goesL_ (some 44) rfl rfl Tryd.func17 (by kernel_rfl) rfl #[.int .i64 t179, .int .i64 t180, .int .i64 t181, .int .i64 t182] rfl (by (try simp only [List.map_toArray, List.map_cons, List.map_nil]); first | done | rfl | (simp only [List.length_drop, List.length_take]; rfl)) ?_; (with_reducible refine (dec_Cmp.calls k t179 t180 t181 t182 t185 _ A12.out).mono ?_); rintro e w19 ⟨rfl, hb⟩; refine ⟨_, rfl, ?_⟩; have n0_ := Aside0.mk (below_step (by repeat (first | (with_reducible first | exact HB.out | apply below_alloc | apply pw_below_drewN | apply below_drew1) | exact HB.out)) hb); clear HB; have HB := n0_; clear n0_; (try clear hb); (try clear hb2); (try clear hk); (try clear hi)) | ((with_reducible refine gate_callee (f := 23) rfl ?_); refine goesL_ (some 50) rfl rfl Tryd.func23 (by kernel_rfl) rfl #[.int .i64 t179, .int .i64 t180, .int .i64 t181, .int .i64 t182] rfl (by (try simp only [List.map_toArray, List.map_cons, List.map_nil]); first | done | rfl | (simp only [List.length_drop, List.length_take]; rfl)) ?_; (with_reducible refine (interlocutorref2_Cmp.calls k t179 t180 t181 t182 t186 _ A13.out).mono ?_); rintro e w' ⟨rfl, ⟨nd, rfl⟩⟩; refine ⟨_, rfl, ?_⟩) | (go_at_call 17; (with_reducible refine (dec_Cmp.calls k t181 t182 t179 t180 t187 _ A15.out).mono ?_); rintro e w20 ⟨rfl, hb⟩; have n0_ := Aside0.mk (below_step (by repeat (first | (with_reducible first | exact HB.out | apply below_alloc | apply pw_below_drewN | apply below_drew1) | exact HB.out)) hb); clear HB; have HB := n0_; clear n0_; (try clear hb); (try clear hb2); (try clear hk); (try clear hi)))
          go_ret
          exact ⟨by first | rfl | (simp [errW_none, errW_some] <;> rfl) | (simp [*, errW_none, errW_some] <;> rfl), by repeat (first | (with_reducible first | exact HB.out | apply below_alloc | apply pw_below_drewN | apply below_drew1) | exact HB.out)⟩
        · rw [if_neg c17] at H
          have c17b0 : decide (0 < t185) = false := decide_eq_false c17
          clear c17
          replace H := Option.bind_eq_some_iff.mp H
          obtain ⟨t188, A210, H⟩ := H
          replace H : (if t188 > 0 then (some true) else ((dec_Cmp.f k t179 t180 t183 t184).bind fun t189 => (some (decide (t189 ≤ 0))))) = some r := H
          have A21 := Aside0.mk A210
          clear A210
          by_cases c22 : t188 > 0
          · rw [if_pos c22] at H
            have c22b0 : decide (0 < t188) = true := decide_eq_true c22
            clear c22
            obtain rfl := Option.some.inj H
            go_enter Tryd.func6, Tryd.ntmps6
            go_wp2_with (first | ((with_reducible refine gate_callee (f := 13) rfl ?_); refine goesL_ (some 20) rfl rfl Tryd.func13 (by kernel_rfl) rfl #[] rfl (by (try simp only [List.map_toArray, List.map_cons, List.map_nil]); first | done | rfl | (simp only [List.length_drop, List.length_take]; rfl)) ?_; (with_reducible refine (interlocutorlaw2_known.calls k  true _ A7.out ?hT_).mono ?_); (case hT_ => first | exact HT_.out | exact tab_below HT_.out (by repeat (first | (with_reducible first | exact HB.out | apply below_alloc | apply pw_below_drewN | apply below_drew1) | exact HB.out))); rintro e w23 ⟨rfl, hb⟩; refine ⟨_, rfl, ?_⟩; have n0_ := Aside0.mk (below_step (by repeat (first | (with_reducible first | exact HB.out | apply below_alloc | apply pw_below_drewN | apply below_drew1) | exact HB.out)) hb); clear HB; have HB := n0_; clear n0_; (try clear hb); (try clear hb2); (try clear hk); (try clear hi)) | ((with_reducible refine gate_callee (f := 14) rfl ?_); refine goesL_ (some 25) rfl rfl Tryd.func14 (by kernel_rfl) rfl #[.int .i64 a0, .int .i64 a1] rfl (by (try simp only [List.map_toArray, List.map_cons, List.map_nil]); first | done | rfl | (simp only [List.length_drop, List.length_take]; rfl)) ?_; (with_reducible refine (interlocutorlaw2_Make.calls k a0 a1 t179 t180 _ A9.out).mono ?_); rintro e w' ⟨rfl, ⟨nd, rfl⟩⟩; refine ⟨_, rfl, ?_⟩) | ((with_reducible refine gate_callee (f := 14) rfl ?_); refine goesL_ (some 31) rfl rfl Tryd.func14 (by kernel_rfl) rfl #[.int .i64 a2, .int .i64 a3] rfl (by (try simp only [List.map_toArray, List.map_cons, List.map_nil]); first | done | rfl | (simp only [List.length_drop, List.length_take]; rfl)) ?_; (with_reducible refine (interlocutorlaw2_Make.calls k a2 a3 t181 t182 _ A10.out).mono ?_); rintro e w' ⟨rfl, ⟨nd, rfl⟩⟩; refine ⟨_, rfl, ?_⟩) | ((with_reducible refine gate_callee (f := 14) rfl ?_); refine goesL_ (some 37) rfl rfl Tryd.func14 (by kernel_rfl) rfl #[.int .i64 a4, .int .i64 a5] rfl (by (try simp only [List.map_toArray, List.map_cons, List.map_nil]); first | done | rfl | (simp only [List.length_drop, List.length_take]; rfl)) ?_; (with_reducible refine (interlocutorlaw2_Make.calls k a4 a5 t183 t184 _ A11.out).mono ?_); rintro e w' ⟨rfl, ⟨nd, rfl⟩⟩; refine ⟨_, rfl, ?_⟩) | ((with_reducible refine gate_callee (f := 17) rfl ?_); refine goesL_ (some 44) rfl rfl Tryd.func17 (by kernel_rfl) rfl #[.int .i64 t179, .int .i64 t180, .int .i64 t181, .int .i64 t182] rfl (by (try simp only [List.map_toArray, List.map_cons, List.map_nil]); first | done | rfl | (simp only [List.length_drop, List.length_take]; rfl)) ?_; (with_reducible refine (dec_Cmp.calls k t179 t180 t181 t182 t185 _ A12.out).mono ?_); rintro e w24 ⟨rfl, hb⟩; refine ⟨_, rfl, ?_⟩; have n0_ := Aside0.mk (below_step (by repeat (first | (with_reducible first | exact HB.out | apply below_alloc | apply pw_below_drewN | apply below_drew1) | exact HB.out)) hb); clear HB; have HB := n0_; clear n0_; (try clear hb); (try clear hb2); (try clear hk); (try clear hi)) | ((with_reducible refine gate_callee (f := 23) rfl ?_); refine goesL_ (some 50) rfl rfl Tryd.func23 (by kernel_rfl) rfl #[.int .i64 t179, .int .i64 t180, .int .i64 t181, .int .i64 t182] rfl (by (try simp only [List.map_toArray, List.map_cons, List.map_nil]); first | done | rfl | (simp only [List.length_drop, List.length_take]; rfl)) ?_; (with_reducible refine (interlocutorref2_Cmp.calls k t179 t180 t181 t182 t186 _ A13.out).mono ?_); rintro e w' ⟨rfl, ⟨nd, rfl⟩⟩; refine ⟨_, rfl, ?_⟩) | (go_at_call 17; (with_reducible refine (dec_Cmp.calls k t181 t182 t179 t180 t187 _ A15.out).mono ?_); rintro e w25 ⟨rfl, hb⟩; have n0_ := Aside0.mk (below_step (by repeat (first | (with_reducible first | exact HB.out | apply below_alloc | apply pw_below_drewN | apply below_drew1) | exact HB.out)) hb); clear HB; have HB := n0_; clear n0_; (try clear hb); (try clear hb2); (try clear hk); (try clear hi)) | (go_at_call 17; (with_reducible refine (dec_Cmp.calls k t181 t182 t183 t184 t188 _ A21.out).mono ?_); rintro e w26 ⟨rfl, hb⟩; have n0_ := Aside0.mk (below_step (by repeat (first | (with_reducible first | exact HB.out | apply below_alloc | apply pw_below_drewN | apply below_drew1) | exact HB.out)) hb); clear HB; have HB := n0_; clear n0_; (try clear hb); (try clear hb2); (try clear hk); (try clear hi)))
            go_ret
            exact ⟨by first | rfl | (simp [errW_none, errW_some] <;> rfl) | (simp [*, errW_none, errW_some] <;> rfl), by repeat (first | (with_reducible first | exact HB.out | apply below_alloc | apply pw_below_drewN | apply below_drew1) | exact HB.out)⟩
          · rw [if_neg c22] at H
            have c22b0 : decide (0 < t188) = false := decide_eq_false c22
            clear c22
            replace H := Option.bind_eq_some_iff.mp H
            obtain ⟨t189, A270, H⟩ := H
            replace H : (some (decide (t189 ≤ 0))) = some r := H
            have A27 := Aside0.mk A270
            clear A270
            obtain rfl := Option.some.inj H
            go_enter Tryd.func6, Tryd.ntmps6
            go_wp2_with (first | ((with_reducible refine gate_callee (f := 13) rfl ?_); refine goesL_ (some 20) rfl rfl Tryd.func13 (by kernel_rfl) rfl #[] rfl (by (try simp only [List.map_toArray, List.map_cons, List.map_nil]); first | done | rfl | (simp only [List.length_drop, List.length_take]; rfl)) ?_; (with_reducible refine (interlocutorlaw2_known.calls k  true _ A7.out ?hT_).mono ?_); (case hT_ => first | exact HT_.out | exact tab_below HT_.out (by repeat (first | (with_reducible first | exact HB.out | apply below_alloc | apply pw_below_drewN | apply below_drew1) | exact HB.out))); rintro e w28 ⟨rfl, hb⟩; refine ⟨_, rfl, ?_⟩; have n0_ := Aside0.mk (below_step (by repeat (first | (with_reducible first | exact HB.out | apply below_alloc | apply pw_below_drewN | apply below_drew1) | exact HB.out)) hb); clear HB; have HB := n0_; clear n0_; (try clear hb); (try clear hb2); (try clear hk); (try clear hi)) | ((with_reducible refine gate_callee (f := 14) rfl ?_); refine goesL_ (some 25) rfl rfl Tryd.func14 (by kernel_rfl) rfl #[.int .i64 a0, .int .i64 a1] rfl (by (try simp only [List.map_toArray, List.map_cons, List.map_nil]); first | done | rfl | (simp only [List.length_drop, List.length_take]; rfl)) ?_; (with_reducible refine (interlocutorlaw2_Make.calls k a0 a1 t179 t180 _ A9.out).mono ?_); rintro e w' ⟨rfl, ⟨nd, rfl⟩⟩; refine ⟨_, rfl, ?_⟩) | ((with_reducible refine gate_callee (f := 14) rfl ?_); refine goesL_ (some 31) rfl rfl Tryd.func14 (by kernel_rfl) rfl #[.int .i64 a2, .int .i64 a3] rfl (by (try simp only [List.map_toArray, List.map_cons, List.map_nil]); first | done | rfl | (simp only [List.length_drop, List.length_take]; rfl)) ?_; (with_reducible refine (interlocutorlaw2_Make.calls k a2 a3 t181 t182 _ A10.out).mono ?_); rintro e w' ⟨rfl, ⟨nd, rfl⟩⟩; refine ⟨_, rfl, ?_⟩) | ((with_reducible refine gate_callee (f := 14) rfl ?_); refine goesL_ (some 37) rfl rfl Tryd.func14 (by kernel_rfl) rfl #[.int .i64 a4, .int .i64 a5] rfl (by (try simp only [List.map_toArray, List.map_cons, List.map_nil]); first | done | rfl | (simp only [List.length_drop, List.length_take]; rfl)) ?_; (with_reducible refine (interlocutorlaw2_Make.calls k a4 a5 t183 t184 _ A11.out).mono ?_); rintro e w' ⟨rfl, ⟨nd, rfl⟩⟩; refine ⟨_, rfl, ?_⟩) | ((with_reducible refine gate_callee (f := 17) rfl ?_); refine goesL_ (some 44) rfl rfl Tryd.func17 (by kernel_rfl) rfl #[.int .i64 t179, .int .i64 t180, .int .i64 t181, .int .i64 t182] rfl (by (try simp only [List.map_toArray, List.map_cons, List.map_nil]); first | done | rfl | (simp only [List.length_drop, List.length_take]; rfl)) ?_; (with_reducible refine (dec_Cmp.calls k t179 t180 t181 t182 t185 _ A12.out).mono ?_); rintro e w29 ⟨rfl, hb⟩; refine ⟨_, rfl, ?_⟩; have n0_ := Aside0.mk (below_step (by repeat (first | (with_reducible first | exact HB.out | apply below_alloc | apply pw_below_drewN | apply below_drew1) | exact HB.out)) hb); clear HB; have HB := n0_; clear n0_; (try clear hb); (try clear hb2); (try clear hk); (try clear hi)) | ((with_reducible refine gate_callee (f := 23) rfl ?_); refine goesL_ (some 50) rfl rfl Tryd.func23 (by kernel_rfl) rfl #[.int .i64 t179, .int .i64 t180, .int .i64 t181, .int .i64 t182] rfl (by (try simp only [List.map_toArray, List.map_cons, List.map_nil]); first | done | rfl | (simp only [List.length_drop, List.length_take]; rfl)) ?_; (with_reducible refine (interlocutorref2_Cmp.calls k t179 t180 t181 t182 t186 _ A13.out).mono ?_); rintro e w' ⟨rfl, ⟨nd, rfl⟩⟩; refine ⟨_, rfl, ?_⟩) | (go_at_call 17; (with_reducible refine (dec_Cmp.calls k t181 t182 t179 t180 t187 _ A15.out).mono ?_); rintro e w30 ⟨rfl, hb⟩; have n0_ := Aside0.mk (below_step (by repeat (first | (with_reducible first | exact HB.out | apply below_alloc | apply pw_below_drewN | apply below_drew1) | exact HB.out)) hb); clear HB; have HB := n0_; clear n0_; (try clear hb); (try clear hb2); (try clear hk); (try clear hi)) | (go_at_call 17; (with_reducible refine (dec_Cmp.calls k t181 t182 t183 t184 t188 _ A21.out).mono ?_); rintro e w31 ⟨rfl, hb⟩; have n0_ := Aside0.mk (below_step (by repeat (first | (with_reducible first | exact HB.out | apply below_alloc | apply pw_below_drewN | apply below_drew1) | exact HB.out)) hb); clear HB; have HB := n0_; clear n0_; (try clear hb); (try clear hb2); (try clear hk); (try clear hi)) | (go_at_call 17; (with_reducible refine (dec_Cmp.calls k t179 t180 t183 t184 t189 _ A27.out).mono ?_); rintro e w32 ⟨rfl, hb⟩; have n0_ := Aside0.mk (below_step (by repeat (first | (with_reducible first | exact HB.out | apply below_alloc | apply pw_below_drewN | apply below_drew1) | exact HB.out)) hb); clear HB; have HB := n0_; clear n0_; (try clear hb); (try clear hb2); (try clear hk); (try clear hi)))
            go_ret
            exact ⟨by first | rfl | (simp [errW_none, errW_some] <;> rfl) | (simp [*, errW_none, errW_some] <;> rfl), by repeat (first | (with_reducible first | exact HB.out | apply below_alloc | apply pw_below_drewN | apply below_drew1) | exact HB.out)⟩
      · rw [if_neg c16] at H
        have c16b0 : (t187 == (wrap64 (-t185))) = false := beq_eq_false_iff_ne.mpr c16
        have c16b1 : (t187 != (wrap64 (-t185))) = true := bne_iff_ne.mpr c16
        obtain rfl := Option.some.inj H
        go_enter Tryd.func6, Tryd.ntmps6
        go_wp2_with (first | ((with_reducible refine gate_callee (f := 13) rfl ?_); refine goesL_ (some 20) rfl rfl Tryd.func13 (by kernel_rfl) rfl #[] rfl (by (try simp only [List.map_toArray, List.map_cons, List.map_nil]); first | done | rfl | (simp only [List.length_drop, List.length_take]; rfl)) ?_; (with_reducible refine (interlocutorlaw2_known.calls k  true _ A7.out ?hT_).mono ?_); (case hT_ => first | exact HT_.out | exact tab_below HT_.out (by repeat (first | (with_reducible first | exact HB.out | apply below_alloc | apply pw_below_drewN | apply below_drew1) | exact HB.out))); rintro e w33 ⟨rfl, hb⟩; refine ⟨_, rfl, ?_⟩; have n0_ := Aside0.mk (below_step (by repeat (first | (with_reducible first | exact HB.out | apply below_alloc | apply pw_below_drewN | apply below_drew1) | exact HB.out)) hb); clear HB; have HB := n0_; clear n0_; (try clear hb); (try clear hb2); (try clear hk); (try clear hi)) | ((with_reducible refine gate_callee (f := 14) rfl ?_); refine goesL_ (some 25) rfl rfl Tryd.func14 (by kernel_rfl) rfl #[.int .i64 a0, .int .i64 a1] rfl (by (try simp only [List.map_toArray, List.map_cons, List.map_nil]); first | done | rfl | (simp only [List.length_drop, List.length_take]; rfl)) ?_; (with_reducible refine (interlocutorlaw2_Make.calls k a0 a1 t179 t180 _ A9.out).mono ?_); rintro e w' ⟨rfl, ⟨nd, rfl⟩⟩; refine ⟨_, rfl, ?_⟩) | ((with_reducible refine gate_callee (f := 14) rfl ?_); refine goesL_ (some 31) rfl rfl Tryd.func14 (by kernel_rfl) rfl #[.int .i64 a2, .int .i64 a3] rfl (by (try simp only [List.map_toArray, List.map_cons, List.map_nil]); first | done | rfl | (simp only [List.length_drop, List.length_take]; rfl)) ?_; (with_reducible refine (interlocutorlaw2_Make.calls k a2 a3 t181 t182 _ A10.out).mono ?_); rintro e w' ⟨rfl, ⟨nd, rfl⟩⟩; refine ⟨_, rfl, ?_⟩) | ((with_reducible refine gate_callee (f := 14) rfl ?_); refine goesL_ (some 37) rfl rfl Tryd.func14 (by kernel_rfl) rfl #[.int .i64 a4, .int .i64 a5] rfl (by (try simp only [List.map_toArray, List.map_cons, List.map_nil]); first | done | rfl | (simp only [List.length_drop, List.length_take]; rfl)) ?_; (with_reducible refine (interlocutorlaw2_Make.calls k a4 a5 t183 t184 _ A11.out).mono ?_); rintro e w' ⟨rfl, ⟨nd, rfl⟩⟩; refine ⟨_, rfl, ?_⟩) | ((with_reducible refine gate_callee (f := 17) rfl ?_); refine goesL_ (some 44) rfl rfl Tryd.func17 (by kernel_rfl) rfl #[.int .i64 t179, .int .i64 t180, .int .i64 t181, .int .i64 t182] rfl (by (try simp only [List.map_toArray, List.map_cons, List.map_nil]); first | done | rfl | (simp only [List.length_drop, List.length_take]; rfl)) ?_; (with_reducible refine (dec_Cmp.calls k t179 t180 t181 t182 t185 _ A12.out).mono ?_); rintro e w34 ⟨rfl, hb⟩; refine ⟨_, rfl, ?_⟩; have n0_ := Aside0.mk (below_step (by repeat (first | (with_reducible first | exact HB.out | apply below_alloc | apply pw_below_drewN | apply below_drew1) | exact HB.out)) hb); clear HB; have HB := n0_; clear n0_; (try clear hb); (try clear hb2); (try clear hk); (try clear hi)) | ((with_reducible refine gate_callee (f := 23) rfl ?_); refine goesL_ (some 50) rfl rfl Tryd.func23 (by kernel_rfl) rfl #[.int .i64 t179, .int .i64 t180, .int .i64 t181, .int .i64 t182] rfl (by (try simp only [List.map_toArray, List.map_cons, List.map_nil]); first | done | rfl | (simp only [List.length_drop, List.length_take]; rfl)) ?_; (with_reducible refine (interlocutorref2_Cmp.calls k t179 t180 t181 t182 t186 _ A13.out).mono ?_); rintro e w' ⟨rfl, ⟨nd, rfl⟩⟩; refine ⟨_, rfl, ?_⟩) | (go_at_call 17; (with_reducible refine (dec_Cmp.calls k t181 t182 t179 t180 t187 _ A15.out).mono ?_); rintro e w35 ⟨rfl, hb⟩; have n0_ := Aside0.mk (below_step (by repeat (first | (with_reducible first | exact HB.out | apply below_alloc | apply pw_below_drewN | apply below_drew1) | exact HB.out)) hb); clear HB; have HB := n0_; clear n0_; (try clear hb); (try clear hb2); (try clear hk); (try clear hi)))
        go_ret
        exact ⟨by first | rfl | (simp [errW_none, errW_some] <;> rfl) | (simp [*, errW_none, errW_some] <;> rfl), by repeat (first | (with_reducible first | exact HB.out | apply below_alloc | apply pw_below_drewN | apply below_drew1) | exact HB.out)⟩
    · rw [if_neg c14] at H
      have c14b0 : (t185 == t186) = false := beq_eq_false_iff_ne.mpr c14
      have c14b1 : (t185 != t186) = true := bne_iff_ne.mpr c14
      obtain rfl := Option.some.inj H
      go_enter Tryd.func6, Tryd.ntmps6
      go_wp2_with (first | ((with_reducible refine gate_callee (f := 13) rfl ?_); refine goesL_ (some 20) rfl rfl Tryd.func13 (by kernel_rfl) rfl #[] rfl (by (try simp only [List.map_toArray, List.map_cons, List.map_nil]); first | done | rfl | (simp only [List.length_drop, List.length_take]; rfl)) ?_; (with_reducible refine (interlocutorlaw2_known.calls k  true _ A7.out ?hT_).mono ?_); (case hT_ => first | exact HT_.out | exact tab_below HT_.out (by repeat (first | (with_reducible first | exact HB.out | apply below_alloc | apply pw_below_drewN | apply below_drew1) | exact HB.out))); rintro e w36 ⟨rfl, hb⟩; refine ⟨_, rfl, ?_⟩; have n0_ := Aside0.mk (below_step (by repeat (first | (with_reducible first | exact HB.out | apply below_alloc | apply pw_below_drewN | apply below_drew1) | exact HB.out)) hb); clear HB; have HB := n0_; clear n0_; (try clear hb); (try clear hb2); (try clear hk); (try clear hi)) | ((with_reducible refine gate_callee (f := 14) rfl ?_); refine goesL_ (some 25) rfl rfl Tryd.func14 (by kernel_rfl) rfl #[.int .i64 a0, .int .i64 a1] rfl (by (try simp only [List.map_toArray, List.map_cons, List.map_nil]); first | done | rfl | (simp only [List.length_drop, List.length_take]; rfl)) ?_; (with_reducible refine (interlocutorlaw2_Make.calls k a0 a1 t179 t180 _ A9.out).mono ?_); rintro e w' ⟨rfl, ⟨nd, rfl⟩⟩; refine ⟨_, rfl, ?_⟩) | ((with_reducible refine gate_callee (f := 14) rfl ?_); refine goesL_ (some 31) rfl rfl Tryd.func14 (by kernel_rfl) rfl #[.int .i64 a2, .int .i64 a3] rfl (by (try simp only [List.map_toArray, List.map_cons, List.map_nil]); first | done | rfl | (simp only [List.length_drop, List.length_take]; rfl)) ?_; (with_reducible refine (interlocutorlaw2_Make.calls k a2 a3 t181 t182 _ A10.out).mono ?_); rintro e w' ⟨rfl, ⟨nd, rfl⟩⟩; refine ⟨_, rfl, ?_⟩) | ((with_reducible refine gate_callee (f := 14) rfl ?_); refine goesL_ (some 37) rfl rfl Tryd.func14 (by kernel_rfl) rfl #[.int .i64 a4, .int .i64 a5] rfl (by (try simp only [List.map_toArray, List.map_cons, List.map_nil]); first | done | rfl | (simp only [List.length_drop, List.length_take]; rfl)) ?_; (with_reducible refine (interlocutorlaw2_Make.calls k a4 a5 t183 t184 _ A11.out).mono ?_); rintro e w' ⟨rfl, ⟨nd, rfl⟩⟩; refine ⟨_, rfl, ?_⟩) | ((with_reducible refine gate_callee (f := 17) rfl ?_); refine goesL_ (some 44) rfl rfl Tryd.func17 (by kernel_rfl) rfl #[.int .i64 t179, .int .i64 t180, .int .i64 t181, .int .i64 t182] rfl (by (try simp only [List.map_toArray, List.map_cons, List.map_nil]); first | done | rfl | (simp only [List.length_drop, List.length_take]; rfl)) ?_; (with_reducible refine (dec_Cmp.calls k t179 t180 t181 t182 t185 _ A12.out).mono ?_); rintro e w37 ⟨rfl, hb⟩; refine ⟨_, rfl, ?_⟩; have n0_ := Aside0.mk (below_step (by repeat (first | (with_reducible first | exact HB.out | apply below_alloc | apply pw_below_drewN | apply below_drew1) | exact HB.out)) hb); clear HB; have HB := n0_; clear n0_; (try clear hb); (try clear hb2); (try clear hk); (try clear hi)) | ((with_reducible refine gate_callee (f := 23) rfl ?_); refine goesL_ (some 50) rfl rfl Tryd.func23 (by kernel_rfl) rfl #[.int .i64 t179, .int .i64 t180, .int .i64 t181, .int .i64 t182] rfl (by (try simp only [List.map_toArray, List.map_cons, List.map_nil]); first | done | rfl | (simp only [List.length_drop, List.length_take]; rfl)) ?_; (with_reducible refine (interlocutorref2_Cmp.calls k t179 t180 t181 t182 t186 _ A13.out).mono ?_); rintro e w' ⟨rfl, ⟨nd, rfl⟩⟩; refine ⟨_, rfl, ?_⟩))
      go_ret
      exact ⟨by first | rfl | (simp [errW_none, errW_some] <;> rfl) | (simp [*, errW_none, errW_some] <;> rfl), by repeat (first | (with_reducible first | exact HB.out | apply below_alloc | apply pw_below_drewN | apply below_drew1) | exact HB.out)⟩
  · replace c8 := Bool.eq_false_iff.mpr c8
    subst c8
    have H1 : (some false) = some r := by rw [if_neg (show ¬ (false = true) by decide)] at H; exact H
    clear H
    have H := H1
    clear H1
    obtain rfl := Option.some.inj H
    go_enter Tryd.func6, Tryd.ntmps6
    go_wp2_with (first | ((with_reducible refine gate_callee (f := 13) rfl ?_); refine goesL_ (some 20) rfl rfl Tryd.func13 (by kernel_rfl) rfl #[] rfl (by (try simp only [List.map_toArray, List.map_cons, List.map_nil]); first | done | rfl | (simp only [List.length_drop, List.length_take]; rfl)) ?_; (with_reducible refine (interlocutorlaw2_known.calls k  false _ A7.out ?hT_).mono ?_); (case hT_ => first | exact HT_.out | exact tab_below HT_.out (by repeat (first | (with_reducible first | exact HB.out | apply below_alloc | apply pw_below_drewN | apply below_drew1) | exact HB.out))); rintro e w38 ⟨rfl, hb⟩; refine ⟨_, rfl, ?_⟩; have n0_ := Aside0.mk (below_step (by repeat (first | (with_reducible first | exact HB.out | apply below_alloc | apply pw_below_drewN | apply below_drew1) | exact HB.out)) hb); clear HB; have HB := n0_; clear n0_; (try clear hb); (try clear hb2); (try clear hk); (try clear hi)))
    go_ret
    exact ⟨by first | rfl | (simp [errW_none, errW_some] <;> rfl) | (simp [*, errW_none, errW_some] <;> rfl), by repeat (first | (with_reducible first | exact HB.out | apply below_alloc | apply pw_below_drewN | apply below_drew1) | exact HB.out)⟩

/-- THE ONE PURE STATEMENT of interlocutorlaw2_DecOrders: yours. -/
def interlocutorlaw2_DecOrders.Pure : Prop := ∀ (a0 : Int) (a1 : Int) (a2 : Int) (a3 : Int) (a4 : Int) (a5 : Int), (Lit.int .i64 a0).wf = true → (Lit.int .i64 a1).wf = true → (Lit.int .i64 a2).wf = true → (Lit.int .i64 a3).wf = true → (Lit.int .i64 a4).wf = true → (Lit.int .i64 a5).wf = true → ∃ k, interlocutorlaw2_DecOrders.f k a0 a1 a2 a3 a4 a5 = some true
theorem interlocutorlaw2_DecOrders.walk (P : interlocutorlaw2_DecOrders.Pure) (a0 : Int) (a1 : Int) (a2 : Int) (a3 : Int) (a4 : Int) (a5 : Int) (w : World) (w0 : (Lit.int .i64 a0).wf = true) (w1 : (Lit.int .i64 a1).wf = true) (w2 : (Lit.int .i64 a2).wf = true) (w3 : (Lit.int .i64 a3).wf = true) (w4 : (Lit.int .i64 a4).wf = true) (w5 : (Lit.int .i64 a5).wf = true) (hT_ : TabOK w) :
    Calls Tryd.prog 6 #[.int .i64 a0, .int .i64 a1, .int .i64 a2, .int .i64 a3, .int .i64 a4, .int .i64 a5] w fun e w' => e = .returned (.bool true) ∧ Below w.heap.size w w' := by
  obtain ⟨k, h⟩ := P a0 a1 a2 a3 a4 a5 w0 w1 w2 w3 w4 w5
  refine (interlocutorlaw2_DecOrders.calls k a0 a1 a2 a3 a4 a5 true w h hT_).mono ?_
  rintro e w' ⟨rfl, hd⟩
  exact ⟨rfl, hd⟩

end Go.Proofs.YtjbihflpjkaifaaDoor.G
