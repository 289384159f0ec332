import Derived.Test.YtjijikgandkphaaGreatDoorGx0
import Derived.Test.YtjijikgandkphaaGreatDoorGx22
namespace Go.Proofs.YtjijikgandkphaaGreatDoor.G
open Go.RowKit Go.Proofs.YtjijikgandkphaaGreatDoorW.PrintWords Go.Proofs.YtjijikgandkphaaGreatDoorW.PrintLast Go.Proofs.YtjijikgandkphaaGreatDoorW.PrintMore Go.Proofs.YtjijikgandkphaaGreatDoorW.VWords Go.Proofs.YtjijikgandkphaaGreatDoorW.Tab
attribute [local go_sem] max2_int min2_int max_two min_two max_three min_three max_four min_four
set_option linter.unusedVariables false
set_option linter.unusedSimpArgs false
def interlocutorref3_blank.f (a0 : Int) : Option (Bool) := if a0 = 9 then (some true) else (if a0 = 160 then (some true) else ((interlocutorref3_in.f a0 8192 8202).bind fun t243 => (if t243 = true then (some true) else (if a0 = 8239 then (some true) else (if a0 = 8287 then (some true) else (some (a0 == 12288)))))))
set_option maxHeartbeats 8000000 in
set_option maxRecDepth 100000 in
theorem interlocutorref3_blank.calls (a0 : Int) (r : Bool) (w : World) (h : interlocutorref3_blank.f a0 = some r) :
  Calls Tryz.prog 91 #[.int .i64 a0] w fun e w' => e = .returned (.bool r) ∧ Drawn0 w w' := by
 have H : (if a0 = 9 then (some true) else (if a0 = 160 then (some true) else ((interlocutorref3_in.f a0 8192 8202).bind fun t243 => (if t243 = true then (some true) else (if a0 = 8239 then (some true) else (if a0 = 8287 then (some true) else (some (a0 == 12288)))))))) = some r := h
 clear h
 by_cases c2 : a0 = 9
 ·rw [if_pos c2] at H
  have c2b0 : (a0 == 9) = true := beq_iff_eq.mpr c2
  have c2b1 : (a0 != 9) = false := bne_eq_false_iff_eq.mpr c2
  clear c2
  obtain rfl := Option.some.inj H
  go_enter Tryz.func91, Tryz.ntmps91
  go_wp2
  go_ret
  exact ⟨by first | rfl | (simp; done) | (simp [*]; done), by repeat (first | exact Drawn0.refl _ | apply Drawn0.step)⟩
 ·rw [if_neg c2] at H
  have c2b0 : (a0 == 9) = false := beq_eq_false_iff_ne.mpr c2
  have c2b1 : (a0 != 9) = true := bne_iff_ne.mpr c2
  by_cases c3 : a0 = 160
  ·rw [if_pos c3] at H
   have c3b0 : (a0 == 160) = true := beq_iff_eq.mpr c3
   have c3b1 : (a0 != 160) = false := bne_eq_false_iff_eq.mpr c3
   clear c3
   obtain rfl := Option.some.inj H
   go_enter Tryz.func91, Tryz.ntmps91
   go_wp2
   go_ret
   exact ⟨by first | rfl | (simp; done) | (simp [*]; done), by repeat (first | exact Drawn0.refl _ | apply Drawn0.step)⟩
  ·rw [if_neg c3] at H
   have c3b0 : (a0 == 160) = false := beq_eq_false_iff_ne.mpr c3
   have c3b1 : (a0 != 160) = true := bne_iff_ne.mpr c3
   replace H := Option.bind_eq_some_iff.mp H
   obtain ⟨t243, A40, H⟩ := H
   replace H : (if t243 = true then (some true) else (if a0 = 8239 then (some true) else (if a0 = 8287 then (some true) else (some (a0 == 12288))))) = some r := H
   have A4 := Aside0.mk A40
   clear A40
   by_cases c5 : t243 = true
   ·subst c5
    have H1 : (some true) = some r := by rw [if_pos rfl] at H; exact H
    clear H
    have H := H1
    clear H1
    obtain rfl := Option.some.inj H
    go_enter Tryz.func91, Tryz.ntmps91
    go_wp2_with (first | (go_at_call 90; (with_reducible refine (interlocutorref3_in.calls a0 8192 8202 true _ A4.out).mono ?_); rintro e w' ⟨rfl, ⟨nd, rfl⟩⟩))
    go_ret
    exact ⟨by first | rfl | (simp; done) | (simp [*]; done), by repeat (first | exact Drawn0.refl _ | apply Drawn0.step)⟩
   ·replace c5 := Bool.eq_false_iff.mpr c5
    subst c5
    have H1 : (if a0 = 8239 then (some true) else (if a0 = 8287 then (some true) else (some (a0 == 12288)))) = some r := by rw [if_neg (show ¬ (false = true) by decide)] at H; exact H
    clear H
    have H := H1
    clear H1
    by_cases c6 : a0 = 8239
    ·rw [if_pos c6] at H
     have c6b0 : (a0 == 8239) = true := beq_iff_eq.mpr c6
     have c6b1 : (a0 != 8239) = false := bne_eq_false_iff_eq.mpr c6
     clear c6
     obtain rfl := Option.some.inj H
     go_enter Tryz.func91, Tryz.ntmps91
     go_wp2_with (first | (go_at_call 90; (with_reducible refine (interlocutorref3_in.calls a0 8192 8202 false _ A4.out).mono ?_); rintro e w' ⟨rfl, ⟨nd, rfl⟩⟩))
     go_ret
     exact ⟨by first | rfl | (simp; done) | (simp [*]; done), by repeat (first | exact Drawn0.refl _ | apply Drawn0.step)⟩
    ·rw [if_neg c6] at H
     have c6b0 : (a0 == 8239) = false := beq_eq_false_iff_ne.mpr c6
     have c6b1 : (a0 != 8239) = true := bne_iff_ne.mpr c6
     by_cases c7 : a0 = 8287
     ·rw [if_pos c7] at H
      have c7b0 : (a0 == 8287) = true := beq_iff_eq.mpr c7
      have c7b1 : (a0 != 8287) = false := bne_eq_false_iff_eq.mpr c7
      clear c7
      obtain rfl := Option.some.inj H
      go_enter Tryz.func91, Tryz.ntmps91
      go_wp2_with (first | (go_at_call 90; (with_reducible refine (interlocutorref3_in.calls a0 8192 8202 false _ A4.out).mono ?_); rintro e w' ⟨rfl, ⟨nd, rfl⟩⟩))
      go_ret
      exact ⟨by first | rfl | (simp; done) | (simp [*]; done), by repeat (first | exact Drawn0.refl _ | apply Drawn0.step)⟩
     ·rw [if_neg c7] at H
      have c7b0 : (a0 == 8287) = false := beq_eq_false_iff_ne.mpr c7
      have c7b1 : (a0 != 8287) = true := bne_iff_ne.mpr c7
      obtain rfl := Option.some.inj H
      go_enter Tryz.func91, Tryz.ntmps91
      go_wp2_with (first | (go_at_call 90; (with_reducible refine (interlocutorref3_in.calls a0 8192 8202 false _ A4.out).mono ?_); rintro e w' ⟨rfl, ⟨nd, rfl⟩⟩))
      go_ret
      exact ⟨by first | rfl | (simp; done) | (simp [*]; done), by repeat (first | exact Drawn0.refl _ | apply Drawn0.step)⟩
def interlocutorref3_dash.f (a0 : Int) : Option (Bool) := (interlocutorref3_in.f a0 8208 8213).bind fun t244 => (if t244 = true then (some true) else (some (a0 == 8722)))
set_option maxHeartbeats 8000000 in
set_option maxRecDepth 100000 in
theorem interlocutorref3_dash.calls (a0 : Int) (r : Bool) (w : World) (h : interlocutorref3_dash.f a0 = some r) :
  Calls Tryz.prog 92 #[.int .i64 a0] w fun e w' => e = .returned (.bool r) ∧ Drawn0 w w' := by
 have H : ((interlocutorref3_in.f a0 8208 8213).bind fun t244 => (if t244 = true then (some true) else (some (a0 == 8722)))) = some r := h
 clear h
 replace H := Option.bind_eq_some_iff.mp H
 obtain ⟨t244, A20, H⟩ := H
 replace H : (if t244 = true then (some true) else (some (a0 == 8722))) = some r := H
 have A2 := Aside0.mk A20
 clear A20
 by_cases c3 : t244 = true
 ·subst c3
  have H1 : (some true) = some r := by rw [if_pos rfl] at H; exact H
  clear H
  have H := H1
  clear H1
  obtain rfl := Option.some.inj H
  go_enter Tryz.func92, Tryz.ntmps92
  go_wp2_with (first | ((with_reducible refine gate_callee (f := 90) rfl ?_); refine goesL_ (some 4) rfl rfl Tryz.func90 (by kernel_rfl) rfl #[.int .i64 a0, .int .i64 8208, .int .i64 8213] rfl (by (try simp only [List.map_toArray, List.map_cons, List.map_nil]); first | done | rfl | (simp only [List.length_drop, List.length_take]; rfl)) ?_; (with_reducible refine (interlocutorref3_in.calls a0 8208 8213 true _ A2.out).mono ?_); rintro e w' ⟨rfl, ⟨nd, rfl⟩⟩; refine ⟨_, rfl, ?_⟩))
  go_ret
  exact ⟨by first | rfl | (simp; done) | (simp [*]; done), by repeat (first | exact Drawn0.refl _ | apply Drawn0.step)⟩
 ·replace c3 := Bool.eq_false_iff.mpr c3
  subst c3
  have H1 : (some (a0 == 8722)) = some r := by rw [if_neg (show ¬ (false = true) by decide)] at H; exact H
  clear H
  have H := H1
  clear H1
  obtain rfl := Option.some.inj H
  go_enter Tryz.func92, Tryz.ntmps92
  go_wp2_with (first | ((with_reducible refine gate_callee (f := 90) rfl ?_); refine goesL_ (some 4) rfl rfl Tryz.func90 (by kernel_rfl) rfl #[.int .i64 a0, .int .i64 8208, .int .i64 8213] rfl (by (try simp only [List.map_toArray, List.map_cons, List.map_nil]); first | done | rfl | (simp only [List.length_drop, List.length_take]; rfl)) ?_; (with_reducible refine (interlocutorref3_in.calls a0 8208 8213 false _ A2.out).mono ?_); rintro e w' ⟨rfl, ⟨nd, rfl⟩⟩; refine ⟨_, rfl, ?_⟩))
  go_ret
  exact ⟨by first | rfl | (simp; done) | (simp [*]; done), by repeat (first | exact Drawn0.refl _ | apply Drawn0.step)⟩
def interlocutorref3_quote.f (a0 : Int) : Option (Bool) := if a0 = 8216 then (some true) else (if a0 = 8217 then (some true) else (some (a0 == 700)))
set_option maxHeartbeats 8000000 in
set_option maxRecDepth 100000 in
theorem interlocutorref3_quote.calls (a0 : Int) (r : Bool) (w : World) (h : interlocutorref3_quote.f a0 = some r) :
  Calls Tryz.prog 93 #[.int .i64 a0] w fun e w' => e = .returned (.bool r) ∧ Drawn0 w w' := by
 have H : (if a0 = 8216 then (some true) else (if a0 = 8217 then (some true) else (some (a0 == 700)))) = some r := h
 clear h
 by_cases c2 : a0 = 8216
 ·rw [if_pos c2] at H
  have c2b0 : (a0 == 8216) = true := beq_iff_eq.mpr c2
  have c2b1 : (a0 != 8216) = false := bne_eq_false_iff_eq.mpr c2
  clear c2
  obtain rfl := Option.some.inj H
  go_enter Tryz.func93, Tryz.ntmps93
  go_wp2
  go_ret
  exact ⟨by first | rfl | (simp; done) | (simp [*]; done), by repeat (first | exact Drawn0.refl _ | apply Drawn0.step)⟩
 ·rw [if_neg c2] at H
  have c2b0 : (a0 == 8216) = false := beq_eq_false_iff_ne.mpr c2
  have c2b1 : (a0 != 8216) = true := bne_iff_ne.mpr c2
  by_cases c3 : a0 = 8217
  ·rw [if_pos c3] at H
   have c3b0 : (a0 == 8217) = true := beq_iff_eq.mpr c3
   have c3b1 : (a0 != 8217) = false := bne_eq_false_iff_eq.mpr c3
   clear c3
   obtain rfl := Option.some.inj H
   go_enter Tryz.func93, Tryz.ntmps93
   go_wp2
   go_ret
   exact ⟨by first | rfl | (simp; done) | (simp [*]; done), by repeat (first | exact Drawn0.refl _ | apply Drawn0.step)⟩
  ·rw [if_neg c3] at H
   have c3b0 : (a0 == 8217) = false := beq_eq_false_iff_ne.mpr c3
   have c3b1 : (a0 != 8217) = true := bne_iff_ne.mpr c3
   obtain rfl := Option.some.inj H
   go_enter Tryz.func93, Tryz.ntmps93
   go_wp2
   go_ret
   exact ⟨by first | rfl | (simp; done) | (simp [*]; done), by repeat (first | exact Drawn0.refl _ | apply Drawn0.step)⟩
def interlocutorref3_digit.f (a0 : Int) : Option (Int) := (interlocutorref3_in.f a0 1632 1641).bind fun t245 => (if t245 = true then (some (wrap64 (a0 - 1632))) else ((interlocutorref3_in.f a0 1776 1785).bind fun t246 => (if t246 = true then (some (wrap64 (a0 - 1776))) else ((interlocutorref3_in.f a0 2406 2415).bind fun t247 => (if t247 = true then (some (wrap64 (a0 - 2406))) else (some (-1)))))))
set_option maxHeartbeats 8000000 in
set_option maxRecDepth 100000 in
theorem interlocutorref3_digit.calls (a0 : Int) (r : Int) (w : World) (h : interlocutorref3_digit.f a0 = some r) :
  Calls Tryz.prog 94 #[.int .i64 a0] w fun e w' => e = .returned (.int .i64 r) ∧ Drawn0 w w' := by
 have H : ((interlocutorref3_in.f a0 1632 1641).bind fun t245 => (if t245 = true then (some (wrap64 (a0 - 1632))) else ((interlocutorref3_in.f a0 1776 1785).bind fun t246 => (if t246 = true then (some (wrap64 (a0 - 1776))) else ((interlocutorref3_in.f a0 2406 2415).bind fun t247 => (if t247 = true then (some (wrap64 (a0 - 2406))) else (some (-1)))))))) = some r := h
 clear h
 replace H := Option.bind_eq_some_iff.mp H
 obtain ⟨t245, A20, H⟩ := H
 replace H : (if t245 = true then (some (wrap64 (a0 - 1632))) else ((interlocutorref3_in.f a0 1776 1785).bind fun t246 => (if t246 = true then (some (wrap64 (a0 - 1776))) else ((interlocutorref3_in.f a0 2406 2415).bind fun t247 => (if t247 = true then (some (wrap64 (a0 - 2406))) else (some (-1))))))) = some r := H
 have A2 := Aside0.mk A20
 clear A20
 by_cases c3 : t245 = true
 ·subst c3
  have H1 : (some (wrap64 (a0 - 1632))) = some r := by rw [if_pos rfl] at H; exact H
  clear H
  have H := H1
  clear H1
  obtain rfl := Option.some.inj H
  go_enter Tryz.func94, Tryz.ntmps94
  go_wp2_with (first | ((with_reducible refine gate_callee (f := 90) rfl ?_); refine goesL_ (some 5) rfl rfl Tryz.func90 (by kernel_rfl) rfl #[.int .i64 a0, .int .i64 1632, .int .i64 1641] rfl (by (try simp only [List.map_toArray, List.map_cons, List.map_nil]); first | done | rfl | (simp only [List.length_drop, List.length_take]; rfl)) ?_; (with_reducible refine (interlocutorref3_in.calls a0 1632 1641 true _ A2.out).mono ?_); rintro e w' ⟨rfl, ⟨nd, rfl⟩⟩; refine ⟨_, rfl, ?_⟩))
  go_ret
  exact ⟨by first | rfl | (simp; done) | (simp [*]; done), by repeat (first | exact Drawn0.refl _ | apply Drawn0.step)⟩
 ·replace c3 := Bool.eq_false_iff.mpr c3
  subst c3
  have H1 : ((interlocutorref3_in.f a0 1776 1785).bind fun t246 => (if t246 = true then (some (wrap64 (a0 - 1776))) else ((interlocutorref3_in.f a0 2406 2415).bind fun t247 => (if t247 = true then (some (wrap64 (a0 - 2406))) else (some (-1)))))) = some r := by rw [if_neg (show ¬ (false = true) by decide)] at H; exact H
  clear H
  have H := H1
  clear H1
  replace H := Option.bind_eq_some_iff.mp H
  obtain ⟨t246, A40, H⟩ := H
  replace H : (if t246 = true then (some (wrap64 (a0 - 1776))) else ((interlocutorref3_in.f a0 2406 2415).bind fun t247 => (if t247 = true then (some (wrap64 (a0 - 2406))) else (some (-1))))) = some r := H
  have A4 := Aside0.mk A40
  clear A40
  by_cases c5 : t246 = true
  ·subst c5
   have H1 : (some (wrap64 (a0 - 1776))) = some r := by rw [if_pos rfl] at H; exact H
   clear H
   have H := H1
   clear H1
   obtain rfl := Option.some.inj H
   go_enter Tryz.func94, Tryz.ntmps94
   go_wp2_with (first | ((with_reducible refine gate_callee (f := 90) rfl ?_); refine goesL_ (some 5) rfl rfl Tryz.func90 (by kernel_rfl) rfl #[.int .i64 a0, .int .i64 1632, .int .i64 1641] rfl (by (try simp only [List.map_toArray, List.map_cons, List.map_nil]); first | done | rfl | (simp only [List.length_drop, List.length_take]; rfl)) ?_; (with_reducible refine (interlocutorref3_in.calls a0 1632 1641 false _ A2.out).mono ?_); rintro e w' ⟨rfl, ⟨nd, rfl⟩⟩; refine ⟨_, rfl, ?_⟩) | ((with_reducible refine gate_callee (f := 90) rfl ?_); refine goesL_ (some 10) rfl rfl Tryz.func90 (by kernel_rfl) rfl #[.int .i64 a0, .int .i64 1776, .int .i64 1785] rfl (by (try simp only [List.map_toArray, List.map_cons, List.map_nil]); first | done | rfl | (simp only [List.length_drop, List.length_take]; rfl)) ?_; (with_reducible refine (interlocutorref3_in.calls a0 1776 1785 true _ A4.out).mono ?_); rintro e w' ⟨rfl, ⟨nd, rfl⟩⟩; refine ⟨_, rfl, ?_⟩))
   go_ret
   exact ⟨by first | rfl | (simp; done) | (simp [*]; done), by repeat (first | exact Drawn0.refl _ | apply Drawn0.step)⟩
  ·replace c5 := Bool.eq_false_iff.mpr c5
   subst c5
   have H1 : ((interlocutorref3_in.f a0 2406 2415).bind fun t247 => (if t247 = true then (some (wrap64 (a0 - 2406))) else (some (-1)))) = some r := by rw [if_neg (show ¬ (false = true) by decide)] at H; exact H
   clear H
   have H := H1
   clear H1
   replace H := Option.bind_eq_some_iff.mp H
   obtain ⟨t247, A60, H⟩ := H
   replace H : (if t247 = true then (some (wrap64 (a0 - 2406))) else (some (-1))) = some r := H
   have A6 := Aside0.mk A60
   clear A60
   by_cases c7 : t247 = true
   ·subst c7
    have H1 : (some (wrap64 (a0 - 2406))) = some r := by rw [if_pos rfl] at H; exact H
    clear H
    have H := H1
    clear H1
    obtain rfl := Option.some.inj H
    go_enter Tryz.func94, Tryz.ntmps94
    go_wp2_with (first | ((with_reducible refine gate_callee (f := 90) rfl ?_); refine goesL_ (some 5) rfl rfl Tryz.func90 (by kernel_rfl) rfl #[.int .i64 a0, .int .i64 1632, .int .i64 1641] rfl (by (try simp only [List.map_toArray, List.map_cons, List.map_nil]); first | done | rfl | (simp only [List.length_drop, List.length_take]; rfl)) ?_; (with_reducible refine (interlocutorref3_in.calls a0 1632 1641 false _ A2.out).mono ?_); rintro e w' ⟨rfl, ⟨nd, rfl⟩⟩; refine ⟨_, rfl, ?_⟩) | ((with_reducible refine gate_callee (f := 90) rfl ?_); refine goesL_ (some 10) rfl rfl Tryz.func90 (by kernel_rfl) rfl #[.int .i64 a0, .int .i64 1776, .int .i64 1785] rfl (by (try simp only [List.map_toArray, List.map_cons, List.map_nil]); first | done | rfl | (simp only [List.length_drop, List.length_take]; rfl)) ?_; (with_reducible refine (interlocutorref3_in.calls a0 1776 1785 false _ A4.out).mono ?_); rintro e w' ⟨rfl, ⟨nd, rfl⟩⟩; refine ⟨_, rfl, ?_⟩) | ((with_reducible refine gate_callee (f := 90) rfl ?_); refine goesL_ (some 15) rfl rfl Tryz.func90 (by kernel_rfl) rfl #[.int .i64 a0, .int .i64 2406, .int .i64 2415] rfl (by (try simp only [List.map_toArray, List.map_cons, List.map_nil]); first | done | rfl | (simp only [List.length_drop, List.length_take]; rfl)) ?_; (with_reducible refine (interlocutorref3_in.calls a0 2406 2415 true _ A6.out).mono ?_); rintro e w' ⟨rfl, ⟨nd, rfl⟩⟩; refine ⟨_, rfl, ?_⟩))
    go_ret
    exact ⟨by first | rfl | (simp; done) | (simp [*]; done), by repeat (first | exact Drawn0.refl _ | apply Drawn0.step)⟩
   ·replace c7 := Bool.eq_false_iff.mpr c7
    subst c7
    have H1 : (some (-1)) = some r := by rw [if_neg (show ¬ (false = true) by decide)] at H; exact H
    clear H
    have H := H1
    clear H1
    obtain rfl := Option.some.inj H
    go_enter Tryz.func94, Tryz.ntmps94
    go_wp2_with (first | ((with_reducible refine gate_callee (f := 90) rfl ?_); refine goesL_ (some 5) rfl rfl Tryz.func90 (by kernel_rfl) rfl #[.int .i64 a0, .int .i64 1632, .int .i64 1641] rfl (by (try simp only [List.map_toArray, List.map_cons, List.map_nil]); first | done | rfl | (simp only [List.length_drop, List.length_take]; rfl)) ?_; (with_reducible refine (interlocutorref3_in.calls a0 1632 1641 false _ A2.out).mono ?_); rintro e w' ⟨rfl, ⟨nd, rfl⟩⟩; refine ⟨_, rfl, ?_⟩) | ((with_reducible refine gate_callee (f := 90) rfl ?_); refine goesL_ (some 10) rfl rfl Tryz.func90 (by kernel_rfl) rfl #[.int .i64 a0, .int .i64 1776, .int .i64 1785] rfl (by (try simp only [List.map_toArray, List.map_cons, List.map_nil]); first | done | rfl | (simp only [List.length_drop, List.length_take]; rfl)) ?_; (with_reducible refine (interlocutorref3_in.calls a0 1776 1785 false _ A4.out).mono ?_); rintro e w' ⟨rfl, ⟨nd, rfl⟩⟩; refine ⟨_, rfl, ?_⟩) | ((with_reducible refine gate_callee (f := 90) rfl ?_); refine goesL_ (some 15) rfl rfl Tryz.func90 (by kernel_rfl) rfl #[.int .i64 a0, .int .i64 2406, .int .i64 2415] rfl (by (try simp only [List.map_toArray, List.map_cons, List.map_nil]); first | done | rfl | (simp only [List.length_drop, List.length_take]; rfl)) ?_; (with_reducible refine (interlocutorref3_in.calls a0 2406 2415 false _ A6.out).mono ?_); rintro e w' ⟨rfl, ⟨nd, rfl⟩⟩; refine ⟨_, rfl, ?_⟩))
    go_ret
    exact ⟨by first | rfl | (simp; done) | (simp [*]; done), by repeat (first | exact Drawn0.refl _ | apply Drawn0.step)⟩
end Go.Proofs.YtjijikgandkphaaGreatDoor.G
