-- printed by wip/tool/gprint.py, a program of this work, out of the translation; Lean checks it
import Derived.Test.YtlgndfplikhflaaDoorGx0
namespace Go.Proofs.YtlgndfplikhflaaDoor.G
open Go.RowKit Go.Proofs.YtlgndfplikhflaaDoorW.PrintWords Go.Proofs.YtlgndfplikhflaaDoorW.PrintLast Go.Proofs.YtlgndfplikhflaaDoorW.PrintMore Go.Proofs.YtlgndfplikhflaaDoorW.VWords Go.Proofs.YtlgndfplikhflaaDoorW.Tab
attribute [local go_sem] max2_int min2_int max_two min_two max_three min_three max_four min_four   -- for this text's walks alone
set_option linter.unusedVariables false
set_option linter.unusedSimpArgs false

/-! ### interlocutorlaw1_within: function 41 -/
def interlocutorlaw1_within.f (a0 : Int) (a1 : Int) : Option (Int) := if a1 = 0 then (none) else (if (Int.tmod a0 a1) < 0 then (some (wrap64 ((Int.tmod a0 a1) + a1))) else (some (Int.tmod a0 a1)))
set_option maxHeartbeats 8000000 in
set_option maxRecDepth 100000 in
theorem interlocutorlaw1_within.calls (a0 : Int) (a1 : Int) (r : Int) (w : World) (h : interlocutorlaw1_within.f a0 a1 = some r) :
    Calls Tryd.prog 41 #[.int .i64 a0, .int .i64 a1] w fun e w' => e = .returned (.int .i64 r) ∧ Drawn0 w w' := by
  have H : (if a1 = 0 then (none) else (if (Int.tmod a0 a1) < 0 then (some (wrap64 ((Int.tmod a0 a1) + a1))) else (some (Int.tmod a0 a1)))) = some r := h
  clear h
  by_cases c3 : a1 = 0
  · rw [if_pos c3] at H
    exact absurd H (by simp)
  · rw [if_neg c3] at H
    have c3b0 : (a1 == 0) = false := beq_eq_false_iff_ne.mpr c3
    have c3b1 : (a1 != 0) = true := bne_iff_ne.mpr c3
    by_cases c4 : (Int.tmod a0 a1) < 0
    · rw [if_pos c4] at H
      have c4b0 : decide ((Int.tmod a0 a1) < 0) = true := decide_eq_true c4
      clear c4
      obtain rfl := Option.some.inj H
      go_enter Tryd.func41, Tryd.ntmps41
      go_wp2
      go_ret
      exact ⟨by first | rfl | (simp; done) | (simp [*]; done), by repeat (first | exact Drawn0.refl _ | apply Drawn0.step)⟩
    · rw [if_neg c4] at H
      have c4b0 : decide ((Int.tmod a0 a1) < 0) = false := decide_eq_false c4
      clear c4
      obtain rfl := Option.some.inj H
      go_enter Tryd.func41, Tryd.ntmps41
      go_wp2
      go_ret
      exact ⟨by first | rfl | (simp; done) | (simp [*]; done), by repeat (first | exact Drawn0.refl _ | apply Drawn0.step)⟩

/-! ### interlocutorref1_Leap: function 49 -/
def interlocutorref1_Leap.f (a0 : Int) : Option (Bool) := if (Int.tmod a0 4) = 0 then (if (Int.tmod a0 100) = 0 then (some ((Int.tmod a0 400) == 0)) else (some true)) else (some false)
set_option maxHeartbeats 8000000 in
set_option maxRecDepth 100000 in
theorem interlocutorref1_Leap.calls (a0 : Int) (r : Bool) (w : World) (h : interlocutorref1_Leap.f a0 = some r) :
    Calls Tryd.prog 49 #[.int .i64 a0] w fun e w' => e = .returned (.bool r) ∧ Drawn0 w w' := by
  have H : (if (Int.tmod a0 4) = 0 then (if (Int.tmod a0 100) = 0 then (some ((Int.tmod a0 400) == 0)) else (some true)) else (some false)) = some r := h
  clear h
  by_cases c2 : (Int.tmod a0 4) = 0
  · rw [if_pos c2] at H
    have c2b0 : ((Int.tmod a0 4) == 0) = true := beq_iff_eq.mpr c2
    have c2b1 : ((Int.tmod a0 4) != 0) = false := bne_eq_false_iff_eq.mpr c2
    clear c2
    by_cases c3 : (Int.tmod a0 100) = 0
    · rw [if_pos c3] at H
      have c3b0 : ((Int.tmod a0 100) == 0) = true := beq_iff_eq.mpr c3
      have c3b1 : ((Int.tmod a0 100) != 0) = false := bne_eq_false_iff_eq.mpr c3
      clear c3
      obtain rfl := Option.some.inj H
      go_enter Tryd.func49, Tryd.ntmps49
      go_wp2
      go_ret
      exact ⟨by first | rfl | (simp; done) | (simp [*]; done), by repeat (first | exact Drawn0.refl _ | apply Drawn0.step)⟩
    · rw [if_neg c3] at H
      have c3b0 : ((Int.tmod a0 100) == 0) = false := beq_eq_false_iff_ne.mpr c3
      have c3b1 : ((Int.tmod a0 100) != 0) = true := bne_iff_ne.mpr c3
      obtain rfl := Option.some.inj H
      go_enter Tryd.func49, Tryd.ntmps49
      go_wp2
      go_ret
      exact ⟨by first | rfl | (simp; done) | (simp [*]; done), by repeat (first | exact Drawn0.refl _ | apply Drawn0.step)⟩
  · rw [if_neg c2] at H
    have c2b0 : ((Int.tmod a0 4) == 0) = false := beq_eq_false_iff_ne.mpr c2
    have c2b1 : ((Int.tmod a0 4) != 0) = true := bne_iff_ne.mpr c2
    obtain rfl := Option.some.inj H
    go_enter Tryd.func49, Tryd.ntmps49
    go_wp2
    go_ret
    exact ⟨by first | rfl | (simp; done) | (simp [*]; done), by repeat (first | exact Drawn0.refl _ | apply Drawn0.step)⟩

/-! ### interlocutorref1_Length: function 42 -/
def interlocutorref1_Length.f (a0 : Int) (a1 : Int) : Option (Int) := if a1 = 2 then ((interlocutorref1_Leap.f a0).bind fun t127 => (if t127 = true then (some 29) else (some 28))) else (if a1 = 4 then (some 30) else (if a1 = 6 then (some 30) else (if a1 = 9 then (some 30) else (if a1 = 11 then (some 30) else (some 31)))))
set_option maxHeartbeats 8000000 in
set_option maxRecDepth 100000 in
theorem interlocutorref1_Length.calls (a0 : Int) (a1 : Int) (r : Int) (w : World) (h : interlocutorref1_Length.f a0 a1 = some r) :
    Calls Tryd.prog 42 #[.int .i64 a0, .int .i64 a1] w fun e w' => e = .returned (.int .i64 r) ∧ Drawn0 w w' := by
  have H : (if a1 = 2 then ((interlocutorref1_Leap.f a0).bind fun t127 => (if t127 = true then (some 29) else (some 28))) else (if a1 = 4 then (some 30) else (if a1 = 6 then (some 30) else (if a1 = 9 then (some 30) else (if a1 = 11 then (some 30) else (some 31)))))) = some r := h
  clear h
  by_cases c3 : a1 = 2
  · rw [if_pos c3] at H
    have c3b0 : (a1 == 2) = true := beq_iff_eq.mpr c3
    have c3b1 : (a1 != 2) = false := bne_eq_false_iff_eq.mpr c3
    clear c3
    replace H := Option.bind_eq_some_iff.mp H
    obtain ⟨t127, A40, H⟩ := H
    replace H : (if t127 = true then (some 29) else (some 28)) = some r := H
    have A4 := Aside0.mk A40
    clear A40
    by_cases c5 : t127 = true
    · subst c5
      have H1 : (some 29) = some r := by rw [if_pos rfl] at H; exact H
      clear H
      have H := H1
      clear H1
      obtain rfl := Option.some.inj H
      go_enter Tryd.func42, Tryd.ntmps42
      go_wp2_with (first | ((with_reducible refine gate_callee (f := 49) rfl ?_); refine goesL_ (some 9) rfl rfl Tryd.func49 (by kernel_rfl) rfl #[.int .i64 a0] rfl (by (try simp only [List.map_toArray, List.map_cons, List.map_nil]); first | done | rfl | (simp only [List.length_drop, List.length_take]; rfl)) ?_; (with_reducible refine (interlocutorref1_Leap.calls a0 true _ A4.out).mono ?_); rintro e w' ⟨rfl, ⟨nd, rfl⟩⟩; refine ⟨_, rfl, ?_⟩))
      go_ret
      exact ⟨by first | rfl | (simp; done) | (simp [*]; done), by repeat (first | exact Drawn0.refl _ | apply Drawn0.step)⟩
    · replace c5 := Bool.eq_false_iff.mpr c5
      subst c5
      have H1 : (some 28) = some r := by rw [if_neg (show ¬ (false = true) by decide)] at H; exact H
      clear H
      have H := H1
      clear H1
      obtain rfl := Option.some.inj H
      go_enter Tryd.func42, Tryd.ntmps42
      go_wp2_with (first | ((with_reducible refine gate_callee (f := 49) rfl ?_); refine goesL_ (some 9) rfl rfl Tryd.func49 (by kernel_rfl) rfl #[.int .i64 a0] rfl (by (try simp only [List.map_toArray, List.map_cons, List.map_nil]); first | done | rfl | (simp only [List.length_drop, List.length_take]; rfl)) ?_; (with_reducible refine (interlocutorref1_Leap.calls a0 false _ A4.out).mono ?_); rintro e w' ⟨rfl, ⟨nd, rfl⟩⟩; refine ⟨_, rfl, ?_⟩))
      go_ret
      exact ⟨by first | rfl | (simp; done) | (simp [*]; done), by repeat (first | exact Drawn0.refl _ | apply Drawn0.step)⟩
  · rw [if_neg c3] at H
    have c3b0 : (a1 == 2) = false := beq_eq_false_iff_ne.mpr c3
    have c3b1 : (a1 != 2) = true := bne_iff_ne.mpr c3
    by_cases c6 : a1 = 4
    · rw [if_pos c6] at H
      have c6b0 : (a1 == 4) = true := beq_iff_eq.mpr c6
      have c6b1 : (a1 != 4) = false := bne_eq_false_iff_eq.mpr c6
      clear c6
      obtain rfl := Option.some.inj H
      go_enter Tryd.func42, Tryd.ntmps42
      go_wp2
      go_ret
      exact ⟨by first | rfl | (simp; done) | (simp [*]; done), by repeat (first | exact Drawn0.refl _ | apply Drawn0.step)⟩
    · rw [if_neg c6] at H
      have c6b0 : (a1 == 4) = false := beq_eq_false_iff_ne.mpr c6
      have c6b1 : (a1 != 4) = true := bne_iff_ne.mpr c6
      by_cases c7 : a1 = 6
      · rw [if_pos c7] at H
        have c7b0 : (a1 == 6) = true := beq_iff_eq.mpr c7
        have c7b1 : (a1 != 6) = false := bne_eq_false_iff_eq.mpr c7
        clear c7
        obtain rfl := Option.some.inj H
        go_enter Tryd.func42, Tryd.ntmps42
        go_wp2
        go_ret
        exact ⟨by first | rfl | (simp; done) | (simp [*]; done), by repeat (first | exact Drawn0.refl _ | apply Drawn0.step)⟩
      · rw [if_neg c7] at H
        have c7b0 : (a1 == 6) = false := beq_eq_false_iff_ne.mpr c7
        have c7b1 : (a1 != 6) = true := bne_iff_ne.mpr c7
        by_cases c8 : a1 = 9
        · rw [if_pos c8] at H
          have c8b0 : (a1 == 9) = true := beq_iff_eq.mpr c8
          have c8b1 : (a1 != 9) = false := bne_eq_false_iff_eq.mpr c8
          clear c8
          obtain rfl := Option.some.inj H
          go_enter Tryd.func42, Tryd.ntmps42
          go_wp2
          go_ret
          exact ⟨by first | rfl | (simp; done) | (simp [*]; done), by repeat (first | exact Drawn0.refl _ | apply Drawn0.step)⟩
        · rw [if_neg c8] at H
          have c8b0 : (a1 == 9) = false := beq_eq_false_iff_ne.mpr c8
          have c8b1 : (a1 != 9) = true := bne_iff_ne.mpr c8
          by_cases c9 : a1 = 11
          · rw [if_pos c9] at H
            have c9b0 : (a1 == 11) = true := beq_iff_eq.mpr c9
            have c9b1 : (a1 != 11) = false := bne_eq_false_iff_eq.mpr c9
            clear c9
            obtain rfl := Option.some.inj H
            go_enter Tryd.func42, Tryd.ntmps42
            go_wp2
            go_ret
            exact ⟨by first | rfl | (simp; done) | (simp [*]; done), by repeat (first | exact Drawn0.refl _ | apply Drawn0.step)⟩
          · rw [if_neg c9] at H
            have c9b0 : (a1 == 11) = false := beq_eq_false_iff_ne.mpr c9
            have c9b1 : (a1 != 11) = true := bne_iff_ne.mpr c9
            obtain rfl := Option.some.inj H
            go_enter Tryd.func42, Tryd.ntmps42
            go_wp2
            go_ret
            exact ⟨by first | rfl | (simp; done) | (simp [*]; done), by repeat (first | exact Drawn0.refl _ | apply Drawn0.step)⟩

/-! ### interlocutorlaw1_Day: function 30 -/
def interlocutorlaw1_Day.f (a0 : Int) (a1 : Bool) : Option (Int × Int × Int) := (interlocutorlaw1_within.f (wrap64 (Int.tdiv a0 400)) 9999).bind fun t128 => (if a1 = true then ((interlocutorlaw1_within.f (wrap64 (Int.tdiv a0 400)) 30001).bind fun t129 => ((interlocutorlaw1_within.f a0 12).bind fun t130 => ((interlocutorref1_Length.f (wrap64 (t129 - 10000)) (wrap64 (1 + t130))).bind fun t131 => ((interlocutorlaw1_within.f (wrap64 (Int.tdiv a0 12)) t131).bind fun t132 => (some (wrap64 (t129 - 10000), wrap64 (1 + t130), wrap64 (1 + t132))))))) else ((interlocutorlaw1_within.f a0 12).bind fun t133 => ((interlocutorref1_Length.f (wrap64 (1 + t128)) (wrap64 (1 + t133))).bind fun t134 => ((interlocutorlaw1_within.f (wrap64 (Int.tdiv a0 12)) t134).bind fun t135 => (some (wrap64 (1 + t128), wrap64 (1 + t133), wrap64 (1 + t135)))))))
set_option maxHeartbeats 8000000 in
set_option maxRecDepth 100000 in
theorem interlocutorlaw1_Day.calls (a0 : Int) (a1 : Bool) (r1 : Int) (r2 : Int) (r3 : Int) (w : World) (h : interlocutorlaw1_Day.f a0 a1 = some (r1, r2, r3)) :
    Calls Tryd.prog 30 #[.int .i64 a0, .bool a1] w fun e w' => e = .returned (.tuple #[.int .i64 r1, .int .i64 r2, .int .i64 r3]) ∧ Drawn0 w w' := by
  have H : ((interlocutorlaw1_within.f (wrap64 (Int.tdiv a0 400)) 9999).bind fun t128 => (if a1 = true then ((interlocutorlaw1_within.f (wrap64 (Int.tdiv a0 400)) 30001).bind fun t129 => ((interlocutorlaw1_within.f a0 12).bind fun t130 => ((interlocutorref1_Length.f (wrap64 (t129 - 10000)) (wrap64 (1 + t130))).bind fun t131 => ((interlocutorlaw1_within.f (wrap64 (Int.tdiv a0 12)) t131).bind fun t132 => (some (wrap64 (t129 - 10000), wrap64 (1 + t130), wrap64 (1 + t132))))))) else ((interlocutorlaw1_within.f a0 12).bind fun t133 => ((interlocutorref1_Length.f (wrap64 (1 + t128)) (wrap64 (1 + t133))).bind fun t134 => ((interlocutorlaw1_within.f (wrap64 (Int.tdiv a0 12)) t134).bind fun t135 => (some (wrap64 (1 + t128), wrap64 (1 + t133), wrap64 (1 + t135)))))))) = some (r1, r2, r3) := h
  clear h
  replace H := Option.bind_eq_some_iff.mp H
  obtain ⟨t128, A30, H⟩ := H
  replace H : (if a1 = true then ((interlocutorlaw1_within.f (wrap64 (Int.tdiv a0 400)) 30001).bind fun t129 => ((interlocutorlaw1_within.f a0 12).bind fun t130 => ((interlocutorref1_Length.f (wrap64 (t129 - 10000)) (wrap64 (1 + t130))).bind fun t131 => ((interlocutorlaw1_within.f (wrap64 (Int.tdiv a0 12)) t131).bind fun t132 => (some (wrap64 (t129 - 10000), wrap64 (1 + t130), wrap64 (1 + t132))))))) else ((interlocutorlaw1_within.f a0 12).bind fun t133 => ((interlocutorref1_Length.f (wrap64 (1 + t128)) (wrap64 (1 + t133))).bind fun t134 => ((interlocutorlaw1_within.f (wrap64 (Int.tdiv a0 12)) t134).bind fun t135 => (some (wrap64 (1 + t128), wrap64 (1 + t133), wrap64 (1 + t135))))))) = some (r1, r2, r3) := H
  have A3 := Aside0.mk A30
  clear A30
  by_cases c4 : a1 = true
  · subst c4
    have H1 : ((interlocutorlaw1_within.f (wrap64 (Int.tdiv a0 400)) 30001).bind fun t129 => ((interlocutorlaw1_within.f a0 12).bind fun t130 => ((interlocutorref1_Length.f (wrap64 (t129 - 10000)) (wrap64 (1 + t130))).bind fun t131 => ((interlocutorlaw1_within.f (wrap64 (Int.tdiv a0 12)) t131).bind fun t132 => (some (wrap64 (t129 - 10000), wrap64 (1 + t130), wrap64 (1 + t132))))))) = some (r1, r2, r3) := by rw [if_pos rfl] at H; exact H
    clear H
    have H := H1
    clear H1
    replace H := Option.bind_eq_some_iff.mp H
    obtain ⟨t129, A50, H⟩ := H
    replace H : ((interlocutorlaw1_within.f a0 12).bind fun t130 => ((interlocutorref1_Length.f (wrap64 (t129 - 10000)) (wrap64 (1 + t130))).bind fun t131 => ((interlocutorlaw1_within.f (wrap64 (Int.tdiv a0 12)) t131).bind fun t132 => (some (wrap64 (t129 - 10000), wrap64 (1 + t130), wrap64 (1 + t132)))))) = some (r1, r2, r3) := H
    have A5 := Aside0.mk A50
    clear A50
    replace H := Option.bind_eq_some_iff.mp H
    obtain ⟨t130, A60, H⟩ := H
    replace H : ((interlocutorref1_Length.f (wrap64 (t129 - 10000)) (wrap64 (1 + t130))).bind fun t131 => ((interlocutorlaw1_within.f (wrap64 (Int.tdiv a0 12)) t131).bind fun t132 => (some (wrap64 (t129 - 10000), wrap64 (1 + t130), wrap64 (1 + t132))))) = some (r1, r2, r3) := H
    have A6 := Aside0.mk A60
    clear A60
    replace H := Option.bind_eq_some_iff.mp H
    obtain ⟨t131, A70, H⟩ := H
    replace H : ((interlocutorlaw1_within.f (wrap64 (Int.tdiv a0 12)) t131).bind fun t132 => (some (wrap64 (t129 - 10000), wrap64 (1 + t130), wrap64 (1 + t132)))) = some (r1, r2, r3) := H
    have A7 := Aside0.mk A70
    clear A70
    replace H := Option.bind_eq_some_iff.mp H
    obtain ⟨t132, A80, H⟩ := H
    replace H : (some (wrap64 (t129 - 10000), wrap64 (1 + t130), wrap64 (1 + t132))) = some (r1, r2, r3) := H
    have A8 := Aside0.mk A80
    clear A80
    simp only [Option.some.injEq, Prod.mk.injEq] at H
    obtain ⟨rfl, rfl, rfl⟩ := H
    go_enter Tryd.func30, Tryd.ntmps30
    go_wp2_with (first | ((with_reducible refine gate_callee (f := 41) rfl ?_); refine goesL_ (some 12) rfl rfl Tryd.func41 (by kernel_rfl) rfl #[.int .i64 (wrap64 (Int.tdiv a0 400)), .int .i64 9999] rfl (by (try simp only [List.map_toArray, List.map_cons, List.map_nil]); first | done | rfl | (simp only [List.length_drop, List.length_take]; rfl)) ?_; (with_reducible refine (interlocutorlaw1_within.calls (wrap64 (Int.tdiv a0 400)) 9999 t128 _ A3.out).mono ?_); rintro e w' ⟨rfl, ⟨nd, rfl⟩⟩; refine ⟨_, rfl, ?_⟩) | ((with_reducible refine gate_callee (f := 41) rfl ?_); refine goesL_ (some 18) rfl rfl Tryd.func41 (by kernel_rfl) rfl #[.int .i64 (wrap64 (Int.tdiv a0 400)), .int .i64 30001] rfl (by (try simp only [List.map_toArray, List.map_cons, List.map_nil]); first | done | rfl | (simp only [List.length_drop, List.length_take]; rfl)) ?_; (with_reducible refine (interlocutorlaw1_within.calls (wrap64 (Int.tdiv a0 400)) 30001 t129 _ A5.out).mono ?_); rintro e w' ⟨rfl, ⟨nd, rfl⟩⟩; refine ⟨_, rfl, ?_⟩) | ((with_reducible refine gate_callee (f := 41) rfl ?_); refine goesL_ (some 21) rfl rfl Tryd.func41 (by kernel_rfl) rfl #[.int .i64 a0, .int .i64 12] rfl (by (try simp only [List.map_toArray, List.map_cons, List.map_nil]); first | done | rfl | (simp only [List.length_drop, List.length_take]; rfl)) ?_; (with_reducible refine (interlocutorlaw1_within.calls a0 12 t130 _ A6.out).mono ?_); rintro e w' ⟨rfl, ⟨nd, rfl⟩⟩; refine ⟨_, rfl, ?_⟩) | ((with_reducible refine gate_callee (f := 42) rfl ?_); refine goesL_ (some 29) rfl rfl Tryd.func42 (by kernel_rfl) rfl #[.int .i64 (wrap64 (t129 - 10000)), .int .i64 (wrap64 (1 + t130))] rfl (by (try simp only [List.map_toArray, List.map_cons, List.map_nil]); first | done | rfl | (simp only [List.length_drop, List.length_take]; rfl)) ?_; (with_reducible refine (interlocutorref1_Length.calls (wrap64 (t129 - 10000)) (wrap64 (1 + t130)) t131 _ A7.out).mono ?_); rintro e w' ⟨rfl, ⟨nd, rfl⟩⟩; refine ⟨_, rfl, ?_⟩) | ((with_reducible refine gate_callee (f := 41) rfl ?_); refine goesL_ (some 30) rfl rfl Tryd.func41 (by kernel_rfl) rfl #[.int .i64 (wrap64 (Int.tdiv a0 12)), .int .i64 t131] rfl (by (try simp only [List.map_toArray, List.map_cons, List.map_nil]); first | done | rfl | (simp only [List.length_drop, List.length_take]; rfl)) ?_; (with_reducible refine (interlocutorlaw1_within.calls (wrap64 (Int.tdiv a0 12)) t131 t132 _ A8.out).mono ?_); rintro e w' ⟨rfl, ⟨nd, rfl⟩⟩; refine ⟨_, rfl, ?_⟩))
    go_ret3
    exact ⟨by first | rfl | (simp; done) | (simp [*]; done), by repeat (first | exact Drawn0.refl _ | apply Drawn0.step)⟩
  · replace c4 := Bool.eq_false_iff.mpr c4
    subst c4
    have H1 : ((interlocutorlaw1_within.f a0 12).bind fun t133 => ((interlocutorref1_Length.f (wrap64 (1 + t128)) (wrap64 (1 + t133))).bind fun t134 => ((interlocutorlaw1_within.f (wrap64 (Int.tdiv a0 12)) t134).bind fun t135 => (some (wrap64 (1 + t128), wrap64 (1 + t133), wrap64 (1 + t135)))))) = some (r1, r2, r3) := by rw [if_neg (show ¬ (false = true) by decide)] at H; exact H
    clear H
    have H := H1
    clear H1
    replace H := Option.bind_eq_some_iff.mp H
    obtain ⟨t133, A90, H⟩ := H
    replace H : ((interlocutorref1_Length.f (wrap64 (1 + t128)) (wrap64 (1 + t133))).bind fun t134 => ((interlocutorlaw1_within.f (wrap64 (Int.tdiv a0 12)) t134).bind fun t135 => (some (wrap64 (1 + t128), wrap64 (1 + t133), wrap64 (1 + t135))))) = some (r1, r2, r3) := H
    have A9 := Aside0.mk A90
    clear A90
    replace H := Option.bind_eq_some_iff.mp H
    obtain ⟨t134, A100, H⟩ := H
    replace H : ((interlocutorlaw1_within.f (wrap64 (Int.tdiv a0 12)) t134).bind fun t135 => (some (wrap64 (1 + t128), wrap64 (1 + t133), wrap64 (1 + t135)))) = some (r1, r2, r3) := H
    have A10 := Aside0.mk A100
    clear A100
    replace H := Option.bind_eq_some_iff.mp H
    obtain ⟨t135, A110, H⟩ := H
    replace H : (some (wrap64 (1 + t128), wrap64 (1 + t133), wrap64 (1 + t135))) = some (r1, r2, r3) := H
    have A11 := Aside0.mk A110
    clear A110
    simp only [Option.some.injEq, Prod.mk.injEq] at H
    obtain ⟨rfl, rfl, rfl⟩ := H
    go_enter Tryd.func30, Tryd.ntmps30
    go_wp2_with (first | ((with_reducible refine gate_callee (f := 41) rfl ?_); refine goesL_ (some 12) rfl rfl Tryd.func41 (by kernel_rfl) rfl #[.int .i64 (wrap64 (Int.tdiv a0 400)), .int .i64 9999] rfl (by (try simp only [List.map_toArray, List.map_cons, List.map_nil]); first | done | rfl | (simp only [List.length_drop, List.length_take]; rfl)) ?_; (with_reducible refine (interlocutorlaw1_within.calls (wrap64 (Int.tdiv a0 400)) 9999 t128 _ A3.out).mono ?_); rintro e w' ⟨rfl, ⟨nd, rfl⟩⟩; refine ⟨_, rfl, ?_⟩) | ((with_reducible refine gate_callee (f := 41) rfl ?_); refine goesL_ (some 21) rfl rfl Tryd.func41 (by kernel_rfl) rfl #[.int .i64 a0, .int .i64 12] rfl (by (try simp only [List.map_toArray, List.map_cons, List.map_nil]); first | done | rfl | (simp only [List.length_drop, List.length_take]; rfl)) ?_; (with_reducible refine (interlocutorlaw1_within.calls a0 12 t133 _ A9.out).mono ?_); rintro e w' ⟨rfl, ⟨nd, rfl⟩⟩; refine ⟨_, rfl, ?_⟩) | ((with_reducible refine gate_callee (f := 42) rfl ?_); refine goesL_ (some 29) rfl rfl Tryd.func42 (by kernel_rfl) rfl #[.int .i64 (wrap64 (1 + t128)), .int .i64 (wrap64 (1 + t133))] rfl (by (try simp only [List.map_toArray, List.map_cons, List.map_nil]); first | done | rfl | (simp only [List.length_drop, List.length_take]; rfl)) ?_; (with_reducible refine (interlocutorref1_Length.calls (wrap64 (1 + t128)) (wrap64 (1 + t133)) t134 _ A10.out).mono ?_); rintro e w' ⟨rfl, ⟨nd, rfl⟩⟩; refine ⟨_, rfl, ?_⟩) | ((with_reducible refine gate_callee (f := 41) rfl ?_); refine goesL_ (some 30) rfl rfl Tryd.func41 (by kernel_rfl) rfl #[.int .i64 (wrap64 (Int.tdiv a0 12)), .int .i64 t134] rfl (by (try simp only [List.map_toArray, List.map_cons, List.map_nil]); first | done | rfl | (simp only [List.length_drop, List.length_take]; rfl)) ?_; (with_reducible refine (interlocutorlaw1_within.calls (wrap64 (Int.tdiv a0 12)) t134 t135 _ A11.out).mono ?_); rintro e w' ⟨rfl, ⟨nd, rfl⟩⟩; refine ⟨_, rfl, ?_⟩))
    go_ret3
    exact ⟨by first | rfl | (simp; done) | (simp [*]; done), by repeat (first | exact Drawn0.refl _ | apply Drawn0.step)⟩

/-! ### interlocutorlaw8_within: function 31 -/
def interlocutorlaw8_within.f (a0 : Int) (a1 : Int) : Option (Int) := if a1 = 0 then (none) else (if (Int.tmod a0 a1) < 0 then (some (wrap64 ((Int.tmod a0 a1) + a1))) else (some (Int.tmod a0 a1)))
set_option maxHeartbeats 8000000 in
set_option maxRecDepth 100000 in
theorem interlocutorlaw8_within.calls (a0 : Int) (a1 : Int) (r : Int) (w : World) (h : interlocutorlaw8_within.f a0 a1 = some r) :
    Calls Tryd.prog 31 #[.int .i64 a0, .int .i64 a1] w fun e w' => e = .returned (.int .i64 r) ∧ Drawn0 w w' := by
  have H : (if a1 = 0 then (none) else (if (Int.tmod a0 a1) < 0 then (some (wrap64 ((Int.tmod a0 a1) + a1))) else (some (Int.tmod a0 a1)))) = some r := h
  clear h
  by_cases c3 : a1 = 0
  · rw [if_pos c3] at H
    exact absurd H (by simp)
  · rw [if_neg c3] at H
    have c3b0 : (a1 == 0) = false := beq_eq_false_iff_ne.mpr c3
    have c3b1 : (a1 != 0) = true := bne_iff_ne.mpr c3
    by_cases c4 : (Int.tmod a0 a1) < 0
    · rw [if_pos c4] at H
      have c4b0 : decide ((Int.tmod a0 a1) < 0) = true := decide_eq_true c4
      clear c4
      obtain rfl := Option.some.inj H
      go_enter Tryd.func31, Tryd.ntmps31
      go_wp2
      go_ret
      exact ⟨by first | rfl | (simp; done) | (simp [*]; done), by repeat (first | exact Drawn0.refl _ | apply Drawn0.step)⟩
    · rw [if_neg c4] at H
      have c4b0 : decide ((Int.tmod a0 a1) < 0) = false := decide_eq_false c4
      clear c4
      obtain rfl := Option.some.inj H
      go_enter Tryd.func31, Tryd.ntmps31
      go_wp2
      go_ret
      exact ⟨by first | rfl | (simp; done) | (simp [*]; done), by repeat (first | exact Drawn0.refl _ | apply Drawn0.step)⟩

/-! ### interlocutorlaw2_within: function 43 -/
def interlocutorlaw2_within.f (a0 : Int) (a1 : Int) : Option (Int) := if a1 = 0 then (none) else (if (Int.tmod a0 a1) < 0 then (some (wrap64 ((Int.tmod a0 a1) + a1))) else (some (Int.tmod a0 a1)))
set_option maxHeartbeats 8000000 in
set_option maxRecDepth 100000 in
theorem interlocutorlaw2_within.calls (a0 : Int) (a1 : Int) (r : Int) (w : World) (h : interlocutorlaw2_within.f a0 a1 = some r) :
    Calls Tryd.prog 43 #[.int .i64 a0, .int .i64 a1] w fun e w' => e = .returned (.int .i64 r) ∧ Drawn0 w w' := by
  have H : (if a1 = 0 then (none) else (if (Int.tmod a0 a1) < 0 then (some (wrap64 ((Int.tmod a0 a1) + a1))) else (some (Int.tmod a0 a1)))) = some r := h
  clear h
  by_cases c3 : a1 = 0
  · rw [if_pos c3] at H
    exact absurd H (by simp)
  · rw [if_neg c3] at H
    have c3b0 : (a1 == 0) = false := beq_eq_false_iff_ne.mpr c3
    have c3b1 : (a1 != 0) = true := bne_iff_ne.mpr c3
    by_cases c4 : (Int.tmod a0 a1) < 0
    · rw [if_pos c4] at H
      have c4b0 : decide ((Int.tmod a0 a1) < 0) = true := decide_eq_true c4
      clear c4
      obtain rfl := Option.some.inj H
      go_enter Tryd.func43, Tryd.ntmps43
      go_wp2
      go_ret
      exact ⟨by first | rfl | (simp; done) | (simp [*]; done), by repeat (first | exact Drawn0.refl _ | apply Drawn0.step)⟩
    · rw [if_neg c4] at H
      have c4b0 : decide ((Int.tmod a0 a1) < 0) = false := decide_eq_false c4
      clear c4
      obtain rfl := Option.some.inj H
      go_enter Tryd.func43, Tryd.ntmps43
      go_wp2
      go_ret
      exact ⟨by first | rfl | (simp; done) | (simp [*]; done), by repeat (first | exact Drawn0.refl _ | apply Drawn0.step)⟩

/-! ### interlocutorlaw2_Make: function 32 -/
def interlocutorlaw2_Make.j0 : Nat → Int → Int → Option (Int × Int)
  | 0, _, _ => none
  | k + 1, x1, x6 => (interlocutorlaw2_within.f x1 11).bind fun t138 => (if t138 = 0 then ((interlocutorlaw2_within.f (wrap64 (Int.tdiv x1 7)) 19).bind fun t139 => (some (wrap64 ((wrap64 (Int.tdiv x6 1000000)) * 1000000), t139))) else ((interlocutorlaw2_within.f (wrap64 (Int.tdiv x1 7)) 19).bind fun t140 => (some (x6, t140))))
def interlocutorlaw2_Make.f (k : Nat) (a0 : Int) (a1 : Int) : Option (Int × Int) := (interlocutorlaw2_within.f a1 7).bind fun t136 => (if t136 = 0 then ((interlocutorlaw2_within.f a0 2000).bind fun t137 => (interlocutorlaw2_Make.j0 k a1 (wrap64 (t137 - 1000)))) else (interlocutorlaw2_Make.j0 k a1 (Int.tmod a0 1000000000000000000)))
theorem interlocutorlaw2_Make.mono_l : ∀ k, (∀ y0 y1, LeO (interlocutorlaw2_Make.j0 k y0 y1) (interlocutorlaw2_Make.j0 (k + 1) y0 y1))
  | 0 => fun _ _ r h => by simp [interlocutorlaw2_Make.j0] at h
  | k + 1 => by
    have ih0 := interlocutorlaw2_Make.mono_l k
    · intro y0 y1
      unfold interlocutorlaw2_Make.j0
      repeat' first
      | (with_reducible exact ih0 _ _)
      | (with_reducible exact LeO.refl _)
      | (with_reducible exact LeO.none _)
      | (with_reducible refine LeO.ite ?_ ?_)
      | (with_reducible refine LeO.bind ?_ (fun _ => ?_))
      | exact ih0 _ _
      | exact LeO.none _
      | refine LeO.ite ?_ ?_
      | refine LeO.bind ?_ (fun _ => ?_)
theorem interlocutorlaw2_Make.mono : ∀ a0 a1 k, LeO (interlocutorlaw2_Make.f k a0 a1) (interlocutorlaw2_Make.f (k + 1) a0 a1) := by
  intro a0 a1 k
  have ih0 := interlocutorlaw2_Make.mono_l k
  unfold interlocutorlaw2_Make.f
  repeat' first
      | (with_reducible exact ih0 _ _)
      | (with_reducible exact LeO.refl _)
      | (with_reducible exact LeO.none _)
      | (with_reducible refine LeO.ite ?_ ?_)
      | (with_reducible refine LeO.bind ?_ (fun _ => ?_))
      | exact ih0 _ _
      | exact LeO.none _
      | refine LeO.ite ?_ ?_
      | refine LeO.bind ?_ (fun _ => ?_)
set_option maxHeartbeats 8000000 in
set_option maxRecDepth 100000 in
theorem interlocutorlaw2_Make.calls (k : Nat) (a0 : Int) (a1 : Int) (r1 : Int) (r2 : Int) (w : World) (h : interlocutorlaw2_Make.f k a0 a1 = some (r1, r2)) :
    Calls Tryd.prog 32 #[.int .i64 a0, .int .i64 a1] w fun e w' => e = .returned (.tuple #[.int .i64 r1, .int .i64 r2]) ∧ Drawn0 w w' := by
  have H : ((interlocutorlaw2_within.f a1 7).bind fun t136 => (if t136 = 0 then ((interlocutorlaw2_within.f a0 2000).bind fun t137 => (interlocutorlaw2_Make.j0 k a1 (wrap64 (t137 - 1000)))) else (interlocutorlaw2_Make.j0 k a1 (Int.tmod a0 1000000000000000000)))) = some (r1, r2) := h
  clear h
  replace H := Option.bind_eq_some_iff.mp H
  obtain ⟨t136, A30, H⟩ := H
  replace H : (if t136 = 0 then ((interlocutorlaw2_within.f a0 2000).bind fun t137 => (interlocutorlaw2_Make.j0 k a1 (wrap64 (t137 - 1000)))) else (interlocutorlaw2_Make.j0 k a1 (Int.tmod a0 1000000000000000000))) = some (r1, r2) := H
  have A3 := Aside0.mk A30
  clear A30
  have HC4 := Aside0.mk H
  clear H
  go_enter Tryd.func32, Tryd.ntmps32
  go_upto_if 11 with (first | ((with_reducible refine gate_callee (f := 43) rfl ?_); refine goesL_ (some 10) rfl rfl Tryd.func43 (by kernel_rfl) rfl #[.int .i64 a1, .int .i64 7] rfl (by (try simp only [List.map_toArray, List.map_cons, List.map_nil]); first | done | rfl | (simp only [List.length_drop, List.length_take]; rfl)) ?_; (with_reducible refine (interlocutorlaw2_within.calls a1 7 t136 _ A3.out).mono ?_); rintro e w' ⟨rfl, ⟨nd, rfl⟩⟩; refine ⟨_, rfl, ?_⟩))
  (try simp only [Act.put, List.setIfInBounds_toArray, List.set_cons_zero, List.set_cons_succ])
  go_cut [6] (fun v6 wc => ∃ (kq : Nat) (x6_3 : Int), v6 = .int .i64 x6_3 ∧ Aside0 (interlocutorlaw2_Make.j0 kq a1 x6_3 = some (r1, r2)) ∧ Aside0 (kq ≤ k) ∧ Drawn0 w wc)
  case first =>
    have H := HC4.out
    clear HC4
    by_cases c5 : t136 = 0
    · rw [if_pos c5] at H
      have c5b0 : (t136 == 0) = true := beq_iff_eq.mpr c5
      have c5b1 : (t136 != 0) = false := bne_eq_false_iff_eq.mpr c5
      clear c5
      (first | rw [c5b0] | (simp only [i64_w, i32_w]; rw [c5b0]) | skip)
      replace H := Option.bind_eq_some_iff.mp H
      obtain ⟨t137, A60, H⟩ := H
      replace H : (interlocutorlaw2_Make.j0 k a1 (wrap64 (t137 - 1000))) = some (r1, r2) := H
      have A6 := Aside0.mk A60
      clear A60
      have H' := Aside0.mk H
      clear H
      go_wp2_with (first | ((with_reducible refine gate_callee (f := 43) rfl ?_); refine goesL_ (some 13) rfl rfl Tryd.func43 (by kernel_rfl) rfl #[.int .i64 a0, .int .i64 2000] rfl (by (try simp only [List.map_toArray, List.map_cons, List.map_nil]); first | done | rfl | (simp only [List.length_drop, List.length_take]; rfl)) ?_; (with_reducible refine (interlocutorlaw2_within.calls a0 2000 t137 _ A6.out).mono ?_); rintro e w' ⟨rfl, ⟨nd, rfl⟩⟩; refine ⟨_, rfl, ?_⟩))
      go_meet
      case rel => exact ⟨_, (wrap64 (t137 - 1000)), (by first | rfl | (simp; done) | (simp [*]; done)), H', ⟨by first | omega | exact Nat.le_refl _⟩, by repeat (first | exact Drawn0.refl _ | apply Drawn0.step)⟩
    · rw [if_neg c5] at H
      have c5b0 : (t136 == 0) = false := beq_eq_false_iff_ne.mpr c5
      have c5b1 : (t136 != 0) = true := bne_iff_ne.mpr c5
      (first | rw [c5b0] | (simp only [i64_w, i32_w]; rw [c5b0]) | skip)
      have H' := Aside0.mk H
      clear H
      go_wp2
      go_meet
      case rel => exact ⟨_, (Int.tmod a0 1000000000000000000), (by first | rfl | (simp; done) | (simp [*]; done)), H', ⟨by first | omega | exact Nat.le_refl _⟩, by repeat (first | exact Drawn0.refl _ | apply Drawn0.step)⟩
  case rest =>
    clear HC4
    try clear p2
    try clear c3
    try clear c4
    try clear c5
    try clear c5b0
    try clear c5b1
    try clear p6
    obtain ⟨kq, x6_3, rfl, HA, HJ3, ⟨mc3, rfl⟩⟩ := hcut
    cases kq with
    | zero => exact absurd HA.out (by simp [interlocutorlaw2_Make.j0])
    | succ kj3 =>
      have H := HA.out
      clear HA
      simp only [interlocutorlaw2_Make.j0] at H
      replace H := Option.bind_eq_some_iff.mp H
      obtain ⟨t138, A70, H⟩ := H
      replace H : (if t138 = 0 then ((interlocutorlaw2_within.f (wrap64 (Int.tdiv a1 7)) 19).bind fun t139 => (some (wrap64 ((wrap64 (Int.tdiv x6_3 1000000)) * 1000000), t139))) else ((interlocutorlaw2_within.f (wrap64 (Int.tdiv a1 7)) 19).bind fun t140 => (some (x6_3, t140)))) = some (r1, r2) := H
      have A7 := Aside0.mk A70
      clear A70
      by_cases c8 : t138 = 0
      · rw [if_pos c8] at H
        have c8b0 : (t138 == 0) = true := beq_iff_eq.mpr c8
        have c8b1 : (t138 != 0) = false := bne_eq_false_iff_eq.mpr c8
        clear c8
        replace H := Option.bind_eq_some_iff.mp H
        obtain ⟨t139, A90, H⟩ := H
        replace H : (some (wrap64 ((wrap64 (Int.tdiv x6_3 1000000)) * 1000000), t139)) = some (r1, r2) := H
        have A9 := Aside0.mk A90
        clear A90
        simp only [Option.some.injEq, Prod.mk.injEq] at H
        obtain ⟨rfl, rfl⟩ := H
        go_wp2_with (first | ((with_reducible refine gate_callee (f := 43) rfl ?_); refine goesL_ (some 16) rfl rfl Tryd.func43 (by kernel_rfl) rfl #[.int .i64 a1, .int .i64 11] rfl (by (try simp only [List.map_toArray, List.map_cons, List.map_nil]); first | done | rfl | (simp only [List.length_drop, List.length_take]; rfl)) ?_; (with_reducible refine (interlocutorlaw2_within.calls a1 11 t138 _ A7.out).mono ?_); rintro e w' ⟨rfl, ⟨nd, rfl⟩⟩; refine ⟨_, rfl, ?_⟩) | ((with_reducible refine gate_callee (f := 43) rfl ?_); refine goesL_ (some 24) rfl rfl Tryd.func43 (by kernel_rfl) rfl #[.int .i64 (wrap64 (Int.tdiv a1 7)), .int .i64 19] rfl (by (try simp only [List.map_toArray, List.map_cons, List.map_nil]); first | done | rfl | (simp only [List.length_drop, List.length_take]; rfl)) ?_; (with_reducible refine (interlocutorlaw2_within.calls (wrap64 (Int.tdiv a1 7)) 19 t139 _ A9.out).mono ?_); rintro e w' ⟨rfl, ⟨nd, rfl⟩⟩; refine ⟨_, rfl, ?_⟩))
        go_ret2
        exact ⟨by first | rfl | (simp; done) | (simp [*]; done), by repeat (first | exact Drawn0.refl _ | apply Drawn0.step)⟩
      · rw [if_neg c8] at H
        have c8b0 : (t138 == 0) = false := beq_eq_false_iff_ne.mpr c8
        have c8b1 : (t138 != 0) = true := bne_iff_ne.mpr c8
        replace H := Option.bind_eq_some_iff.mp H
        obtain ⟨t140, A100, H⟩ := H
        replace H : (some (x6_3, t140)) = some (r1, r2) := H
        have A10 := Aside0.mk A100
        clear A100
        simp only [Option.some.injEq, Prod.mk.injEq] at H
        obtain ⟨rfl, rfl⟩ := H
        go_wp2_with (first | ((with_reducible refine gate_callee (f := 43) rfl ?_); refine goesL_ (some 16) rfl rfl Tryd.func43 (by kernel_rfl) rfl #[.int .i64 a1, .int .i64 11] rfl (by (try simp only [List.map_toArray, List.map_cons, List.map_nil]); first | done | rfl | (simp only [List.length_drop, List.length_take]; rfl)) ?_; (with_reducible refine (interlocutorlaw2_within.calls a1 11 t138 _ A7.out).mono ?_); rintro e w' ⟨rfl, ⟨nd, rfl⟩⟩; refine ⟨_, rfl, ?_⟩) | ((with_reducible refine gate_callee (f := 43) rfl ?_); refine goesL_ (some 24) rfl rfl Tryd.func43 (by kernel_rfl) rfl #[.int .i64 (wrap64 (Int.tdiv a1 7)), .int .i64 19] rfl (by (try simp only [List.map_toArray, List.map_cons, List.map_nil]); first | done | rfl | (simp only [List.length_drop, List.length_take]; rfl)) ?_; (with_reducible refine (interlocutorlaw2_within.calls (wrap64 (Int.tdiv a1 7)) 19 t140 _ A10.out).mono ?_); rintro e w' ⟨rfl, ⟨nd, rfl⟩⟩; refine ⟨_, rfl, ?_⟩))
        go_ret2
        exact ⟨by first | rfl | (simp; done) | (simp [*]; done), by repeat (first | exact Drawn0.refl _ | apply Drawn0.step)⟩

/-! ### interlocutorref1_floor: function 44 -/
def interlocutorref1_floor.f (a0 : Int) (a1 : Int) : Option (Int) := if a1 = 0 then (none) else (if (Int.tmod a0 a1) < 0 then (some (wrap64 ((wrap64 (Int.tdiv a0 a1)) - 1))) else (some (wrap64 (Int.tdiv a0 a1))))
set_option maxHeartbeats 8000000 in
set_option maxRecDepth 100000 in
theorem interlocutorref1_floor.calls (a0 : Int) (a1 : Int) (r : Int) (w : World) (h : interlocutorref1_floor.f a0 a1 = some r) :
    Calls Tryd.prog 44 #[.int .i64 a0, .int .i64 a1] w fun e w' => e = .returned (.int .i64 r) ∧ Drawn0 w w' := by
  have H : (if a1 = 0 then (none) else (if (Int.tmod a0 a1) < 0 then (some (wrap64 ((wrap64 (Int.tdiv a0 a1)) - 1))) else (some (wrap64 (Int.tdiv a0 a1))))) = some r := h
  clear h
  by_cases c3 : a1 = 0
  · rw [if_pos c3] at H
    exact absurd H (by simp)
  · rw [if_neg c3] at H
    have c3b0 : (a1 == 0) = false := beq_eq_false_iff_ne.mpr c3
    have c3b1 : (a1 != 0) = true := bne_iff_ne.mpr c3
    by_cases c4 : (Int.tmod a0 a1) < 0
    · rw [if_pos c4] at H
      have c4b0 : decide ((Int.tmod a0 a1) < 0) = true := decide_eq_true c4
      clear c4
      obtain rfl := Option.some.inj H
      go_enter Tryd.func44, Tryd.ntmps44
      go_wp2
      go_ret
      exact ⟨by first | rfl | (simp; done) | (simp [*]; done), by repeat (first | exact Drawn0.refl _ | apply Drawn0.step)⟩
    · rw [if_neg c4] at H
      have c4b0 : decide ((Int.tmod a0 a1) < 0) = false := decide_eq_false c4
      clear c4
      obtain rfl := Option.some.inj H
      go_enter Tryd.func44, Tryd.ntmps44
      go_wp2
      go_ret
      exact ⟨by first | rfl | (simp; done) | (simp [*]; done), by repeat (first | exact Drawn0.refl _ | apply Drawn0.step)⟩

/-! ### interlocutorref1_Days: function 33 -/
def interlocutorref1_Days.f (a0 : Int) (a1 : Int) (a2 : Int) : Option (Int) := if a1 ≤ 2 then ((interlocutorref1_floor.f (wrap64 (a0 - 1)) 400).bind fun t141 => (some (wrap64 ((wrap64 ((wrap64 ((wrap64 ((wrap64 ((wrap64 (146097 * t141)) + (wrap64 (365 * (wrap64 ((wrap64 (a0 - 1)) - (wrap64 (400 * t141)))))))) + (wrap64 (Int.tdiv (wrap64 ((wrap64 (a0 - 1)) - (wrap64 (400 * t141)))) 4)))) - (wrap64 (Int.tdiv (wrap64 ((wrap64 (a0 - 1)) - (wrap64 (400 * t141)))) 100)))) + (wrap64 ((wrap64 ((wrap64 (Int.tdiv (wrap64 ((wrap64 (153 * (Int.tmod (wrap64 (a1 + 9)) 12))) + 2)) 5)) + a2)) - 1)))) - 719468)))) else ((interlocutorref1_floor.f a0 400).bind fun t142 => (some (wrap64 ((wrap64 ((wrap64 ((wrap64 ((wrap64 ((wrap64 (146097 * t142)) + (wrap64 (365 * (wrap64 (a0 - (wrap64 (400 * t142)))))))) + (wrap64 (Int.tdiv (wrap64 (a0 - (wrap64 (400 * t142)))) 4)))) - (wrap64 (Int.tdiv (wrap64 (a0 - (wrap64 (400 * t142)))) 100)))) + (wrap64 ((wrap64 ((wrap64 (Int.tdiv (wrap64 ((wrap64 (153 * (Int.tmod (wrap64 (a1 + 9)) 12))) + 2)) 5)) + a2)) - 1)))) - 719468))))
set_option maxHeartbeats 8000000 in
set_option maxRecDepth 100000 in
theorem interlocutorref1_Days.calls (a0 : Int) (a1 : Int) (a2 : Int) (r : Int) (w : World) (h : interlocutorref1_Days.f a0 a1 a2 = some r) :
    Calls Tryd.prog 33 #[.int .i64 a0, .int .i64 a1, .int .i64 a2] w fun e w' => e = .returned (.int .i64 r) ∧ Drawn0 w w' := by
  have H : (if a1 ≤ 2 then ((interlocutorref1_floor.f (wrap64 (a0 - 1)) 400).bind fun t141 => (some (wrap64 ((wrap64 ((wrap64 ((wrap64 ((wrap64 ((wrap64 (146097 * t141)) + (wrap64 (365 * (wrap64 ((wrap64 (a0 - 1)) - (wrap64 (400 * t141)))))))) + (wrap64 (Int.tdiv (wrap64 ((wrap64 (a0 - 1)) - (wrap64 (400 * t141)))) 4)))) - (wrap64 (Int.tdiv (wrap64 ((wrap64 (a0 - 1)) - (wrap64 (400 * t141)))) 100)))) + (wrap64 ((wrap64 ((wrap64 (Int.tdiv (wrap64 ((wrap64 (153 * (Int.tmod (wrap64 (a1 + 9)) 12))) + 2)) 5)) + a2)) - 1)))) - 719468)))) else ((interlocutorref1_floor.f a0 400).bind fun t142 => (some (wrap64 ((wrap64 ((wrap64 ((wrap64 ((wrap64 ((wrap64 (146097 * t142)) + (wrap64 (365 * (wrap64 (a0 - (wrap64 (400 * t142)))))))) + (wrap64 (Int.tdiv (wrap64 (a0 - (wrap64 (400 * t142)))) 4)))) - (wrap64 (Int.tdiv (wrap64 (a0 - (wrap64 (400 * t142)))) 100)))) + (wrap64 ((wrap64 ((wrap64 (Int.tdiv (wrap64 ((wrap64 (153 * (Int.tmod (wrap64 (a1 + 9)) 12))) + 2)) 5)) + a2)) - 1)))) - 719468))))) = some r := h
  clear h
  by_cases c4 : a1 ≤ 2
  · rw [if_pos c4] at H
    have c4b0 : decide (a1 ≤ 2) = true := decide_eq_true c4
    clear c4
    replace H := Option.bind_eq_some_iff.mp H
    obtain ⟨t141, A50, H⟩ := H
    replace H : (some (wrap64 ((wrap64 ((wrap64 ((wrap64 ((wrap64 ((wrap64 (146097 * t141)) + (wrap64 (365 * (wrap64 ((wrap64 (a0 - 1)) - (wrap64 (400 * t141)))))))) + (wrap64 (Int.tdiv (wrap64 ((wrap64 (a0 - 1)) - (wrap64 (400 * t141)))) 4)))) - (wrap64 (Int.tdiv (wrap64 ((wrap64 (a0 - 1)) - (wrap64 (400 * t141)))) 100)))) + (wrap64 ((wrap64 ((wrap64 (Int.tdiv (wrap64 ((wrap64 (153 * (Int.tmod (wrap64 (a1 + 9)) 12))) + 2)) 5)) + a2)) - 1)))) - 719468))) = some r := H
    have A5 := Aside0.mk A50
    clear A50
    obtain rfl := Option.some.inj H
    go_enter Tryd.func33, Tryd.ntmps33
    go_wp2_with (first | ((with_reducible refine gate_callee (f := 44) rfl ?_); refine goesL_ (some 16) rfl rfl Tryd.func44 (by kernel_rfl) rfl #[.int .i64 (wrap64 (a0 - 1)), .int .i64 400] rfl (by (try simp only [List.map_toArray, List.map_cons, List.map_nil]); first | done | rfl | (simp only [List.length_drop, List.length_take]; rfl)) ?_; (with_reducible refine (interlocutorref1_floor.calls (wrap64 (a0 - 1)) 400 t141 _ A5.out).mono ?_); rintro e w' ⟨rfl, ⟨nd, rfl⟩⟩; refine ⟨_, rfl, ?_⟩))
    go_ret
    exact ⟨by first | rfl | (simp; done) | (simp [*]; done), by repeat (first | exact Drawn0.refl _ | apply Drawn0.step)⟩
  · rw [if_neg c4] at H
    have c4b0 : decide (a1 ≤ 2) = false := decide_eq_false c4
    clear c4
    replace H := Option.bind_eq_some_iff.mp H
    obtain ⟨t142, A60, H⟩ := H
    replace H : (some (wrap64 ((wrap64 ((wrap64 ((wrap64 ((wrap64 ((wrap64 (146097 * t142)) + (wrap64 (365 * (wrap64 (a0 - (wrap64 (400 * t142)))))))) + (wrap64 (Int.tdiv (wrap64 (a0 - (wrap64 (400 * t142)))) 4)))) - (wrap64 (Int.tdiv (wrap64 (a0 - (wrap64 (400 * t142)))) 100)))) + (wrap64 ((wrap64 ((wrap64 (Int.tdiv (wrap64 ((wrap64 (153 * (Int.tmod (wrap64 (a1 + 9)) 12))) + 2)) 5)) + a2)) - 1)))) - 719468))) = some r := H
    have A6 := Aside0.mk A60
    clear A60
    obtain rfl := Option.some.inj H
    go_enter Tryd.func33, Tryd.ntmps33
    go_wp2_with (first | ((with_reducible refine gate_callee (f := 44) rfl ?_); refine goesL_ (some 16) rfl rfl Tryd.func44 (by kernel_rfl) rfl #[.int .i64 a0, .int .i64 400] rfl (by (try simp only [List.map_toArray, List.map_cons, List.map_nil]); first | done | rfl | (simp only [List.length_drop, List.length_take]; rfl)) ?_; (with_reducible refine (interlocutorref1_floor.calls a0 400 t142 _ A6.out).mono ?_); rintro e w' ⟨rfl, ⟨nd, rfl⟩⟩; refine ⟨_, rfl, ?_⟩))
    go_ret
    exact ⟨by first | rfl | (simp; done) | (simp [*]; done), by repeat (first | exact Drawn0.refl _ | apply Drawn0.step)⟩

end Go.Proofs.YtlgndfplikhflaaDoor.G
