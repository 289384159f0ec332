import Derived.Test.YtjijikgandkphaaGreatDoorGx0
import Derived.Test.YtjijikgandkphaaGreatDoorGx22
import Derived.Test.YtjijikgandkphaaGreatDoorGx24
namespace Go.Proofs.YtjijikgandkphaaGreatDoor.G
open Go.RowKit Go.Proofs.YtjijikgandkphaaGreatDoorW.PrintWords Go.Proofs.YtjijikgandkphaaGreatDoorW.PrintLast Go.Proofs.YtjijikgandkphaaGreatDoorW.PrintMore Go.Proofs.YtjijikgandkphaaGreatDoorW.VWords Go.Proofs.YtjijikgandkphaaGreatDoorW.Tab
attribute [local go_sem] max2_int min2_int max_two min_two max_three min_three max_four min_four
set_option linter.unusedVariables false
set_option linter.unusedSimpArgs false
mutual
def interlocutorref3_Rune.j0 : Nat → Int → Option (Int)
  | 0, _ => none
  | k + 1, x0 => (interlocutorref3_blank.f x0).bind fun t249 => (if t249 = true then (some 32) else ((interlocutorref3_dash.f x0).bind fun t250 => (if t250 = true then (some 45) else ((interlocutorref3_quote.f x0).bind fun t251 => (if t251 = true then (some 39) else ((interlocutorref3_digit.f x0).bind fun t252 => (if t252 ≥ 0 then ((interlocutorref3_digit.f x0).bind fun t253 => (some (wrap64 (48 + t253)))) else ((interlocutorref3_in.f x0 65 90).bind fun t254 => (if t254 = true then (interlocutorref3_Rune.j2 k x0 t254) else ((interlocutorref3_in.f x0 192 222).bind fun t255 => (if t255 = true then (interlocutorref3_Rune.j1 k x0 (x0 != 215)) else (interlocutorref3_Rune.j1 k x0 false))))))))))))
def interlocutorref3_Rune.j2 : Nat → Int → Bool → Option (Int)
  | 0, _, _ => none
  | k + 1, x0, x23 => if x23 = true then (some (wrap64 (x0 + 32))) else ((interlocutorref3_in.f x0 1024 1039).bind fun t259 => (if t259 = true then (some (wrap64 (x0 + 80))) else (some x0)))
def interlocutorref3_Rune.j1 : Nat → Int → Bool → Option (Int)
  | 0, _, _ => none
  | k + 1, x0, x23 => if x23 = true then (interlocutorref3_Rune.j2 k x0 x23) else ((interlocutorref3_in.f x0 913 937).bind fun t256 => (if t256 = true then (if x0 = 930 then ((interlocutorref3_in.f x0 1040 1071).bind fun t257 => (interlocutorref3_Rune.j2 k x0 t257)) else (interlocutorref3_Rune.j2 k x0 (x0 != 930))) else ((interlocutorref3_in.f x0 1040 1071).bind fun t258 => (interlocutorref3_Rune.j2 k x0 t258))))
end
def interlocutorref3_Rune.f (k : Nat) (a0 : Int) : Option (Int) := (interlocutorref3_in.f a0 65281 65374).bind fun t248 => (if t248 = true then (interlocutorref3_Rune.j0 k (wrap64 (a0 - 65248))) else (interlocutorref3_Rune.j0 k a0))
theorem interlocutorref3_Rune.mono_l : ∀ k, (∀ y0, LeO (interlocutorref3_Rune.j0 k y0) (interlocutorref3_Rune.j0 (k + 1) y0)) ∧ (∀ y0 y1, LeO (interlocutorref3_Rune.j2 k y0 y1) (interlocutorref3_Rune.j2 (k + 1) y0 y1)) ∧ (∀ y0 y1, LeO (interlocutorref3_Rune.j1 k y0 y1) (interlocutorref3_Rune.j1 (k + 1) y0 y1))
  | 0 => ⟨fun _ r h => by simp [interlocutorref3_Rune.j0] at h, fun _ _ r h => by simp [interlocutorref3_Rune.j2] at h, fun _ _ r h => by simp [interlocutorref3_Rune.j1] at h⟩
  | k + 1 => by
    obtain ⟨ih0, ih1, ih2⟩ := interlocutorref3_Rune.mono_l k
    refine ⟨?_, ?_, ?_⟩
    · intro y0
      unfold interlocutorref3_Rune.j0
      repeat' first
      | (with_reducible exact ih0 _)
      | (with_reducible exact ih1 _ _)
      | (with_reducible exact ih2 _ _)
      | (with_reducible exact LeO.refl _)
      | (with_reducible exact LeO.none _)
      | (with_reducible refine LeO.ite ?_ ?_)
      | (with_reducible refine LeO.bind ?_ (fun _ => ?_))
      | exact ih0 _
      | exact ih1 _ _
      | exact ih2 _ _
      | exact LeO.none _
      | refine LeO.ite ?_ ?_
      | refine LeO.bind ?_ (fun _ => ?_)
    · intro y0 y1
      unfold interlocutorref3_Rune.j2
      repeat' first
      | (with_reducible exact ih0 _)
      | (with_reducible exact ih1 _ _)
      | (with_reducible exact ih2 _ _)
      | (with_reducible exact LeO.refl _)
      | (with_reducible exact LeO.none _)
      | (with_reducible refine LeO.ite ?_ ?_)
      | (with_reducible refine LeO.bind ?_ (fun _ => ?_))
      | exact ih0 _
      | exact ih1 _ _
      | exact ih2 _ _
      | exact LeO.none _
      | refine LeO.ite ?_ ?_
      | refine LeO.bind ?_ (fun _ => ?_)
    · intro y0 y1
      unfold interlocutorref3_Rune.j1
      repeat' first
      | (with_reducible exact ih0 _)
      | (with_reducible exact ih1 _ _)
      | (with_reducible exact ih2 _ _)
      | (with_reducible exact LeO.refl _)
      | (with_reducible exact LeO.none _)
      | (with_reducible refine LeO.ite ?_ ?_)
      | (with_reducible refine LeO.bind ?_ (fun _ => ?_))
      | exact ih0 _
      | exact ih1 _ _
      | exact ih2 _ _
      | exact LeO.none _
      | refine LeO.ite ?_ ?_
      | refine LeO.bind ?_ (fun _ => ?_)
theorem interlocutorref3_Rune.mono : ∀ a0 k, LeO (interlocutorref3_Rune.f k a0) (interlocutorref3_Rune.f (k + 1) a0) := by
  intro a0 k
  obtain ⟨ih0, ih1, ih2⟩ := interlocutorref3_Rune.mono_l k
  unfold interlocutorref3_Rune.f
  repeat' first
      | (with_reducible exact ih0 _)
      | (with_reducible exact ih1 _ _)
      | (with_reducible exact ih2 _ _)
      | (with_reducible exact LeO.refl _)
      | (with_reducible exact LeO.none _)
      | (with_reducible refine LeO.ite ?_ ?_)
      | (with_reducible refine LeO.bind ?_ (fun _ => ?_))
      | exact ih0 _
      | exact ih1 _ _
      | exact ih2 _ _
      | exact LeO.none _
      | refine LeO.ite ?_ ?_
      | refine LeO.bind ?_ (fun _ => ?_)
set_option maxHeartbeats 8000000 in
set_option maxRecDepth 100000 in
theorem interlocutorref3_Rune.calls (k : Nat) (a0 : Int) (r : Int) (w : World) (h : interlocutorref3_Rune.f k a0 = some r) :
    Calls Tryz.prog 66 #[.int .i64 a0] w fun e w' => e = .returned (.int .i64 r) ∧ Drawn0 w w' := by
  have H : ((interlocutorref3_in.f a0 65281 65374).bind fun t248 => (if t248 = true then (interlocutorref3_Rune.j0 k (wrap64 (a0 - 65248))) else (interlocutorref3_Rune.j0 k a0))) = some r := h
  clear h
  replace H := Option.bind_eq_some_iff.mp H
  obtain ⟨t248, A20, H⟩ := H
  replace H : (if t248 = true then (interlocutorref3_Rune.j0 k (wrap64 (a0 - 65248))) else (interlocutorref3_Rune.j0 k a0)) = some r := H
  have A2 := Aside0.mk A20
  clear A20
  have HC3 := Aside0.mk H
  clear H
  go_enter Tryz.func66, Tryz.ntmps66
  go_upto_if 4 with (first | ((with_reducible refine gate_callee (f := 90) rfl ?_); refine goesL_ (some 4) rfl rfl Tryz.func90 (by kernel_rfl) rfl #[.int .i64 a0, .int .i64 65281, .int .i64 65374] rfl (by (try simp only [List.map_toArray, List.map_cons, List.map_nil]); first | done | rfl | (simp only [List.length_drop, List.length_take]; rfl)) ?_; (with_reducible refine (interlocutorref3_in.calls a0 65281 65374 t248 _ A2.out).mono ?_); rintro e w' ⟨rfl, ⟨nd, rfl⟩⟩; refine ⟨_, rfl, ?_⟩))
  (try simp only [Act.put, List.setIfInBounds_toArray, List.set_cons_zero, List.set_cons_succ])
  go_cut [0] (fun v0 wc => ∃ (kq : Nat) (x0_2 : Int), v0 = .int .i64 x0_2 ∧ Aside0 (interlocutorref3_Rune.j0 kq x0_2 = some r) ∧ Aside0 (kq ≤ k) ∧ Drawn0 w wc)
  case first =>
   have H := HC3.out
   clear HC3
   by_cases c4 : t248 = true
   · subst c4
     have H1 : (interlocutorref3_Rune.j0 k (wrap64 (a0 - 65248))) = some r := by rw [if_pos rfl] at H; exact H
     clear H
     have H := H1
     clear H1
     have H' := Aside0.mk H
     clear H
     go_wp2
     go_meet
     case rel => exact ⟨_, (wrap64 (a0 - 65248)), (by first | rfl | (simp; done) | (simp [*]; done)), H', ⟨by first | omega | exact Nat.le_refl _⟩, by repeat (first | exact Drawn0.refl _ | apply Drawn0.step)⟩
   replace c4 := Bool.eq_false_iff.mpr c4
   subst c4
   have H1 : (interlocutorref3_Rune.j0 k a0) = some r := by rw [if_neg (show ¬ (false = true) by decide)] at H; exact H
   clear H
   have H := H1
   clear H1
   have H' := Aside0.mk H
   clear H
   go_wp2
   go_meet
   case rel => exact ⟨_, (a0), (by first | rfl | (simp; done) | (simp [*]; done)), H', ⟨by first | omega | exact Nat.le_refl _⟩, by repeat (first | exact Drawn0.refl _ | apply Drawn0.step)⟩
  case rest =>
   clear HC3
   try clear p2
   try clear c4
   obtain ⟨kq, x0_2, rfl, HA, HJ2, ⟨mc2, rfl⟩⟩ := hcut
   cases kq with
   | zero => exact absurd HA.out (by simp [interlocutorref3_Rune.j0])
   | succ kj2 =>
    have H := HA.out
    clear HA
    simp only [interlocutorref3_Rune.j0] at H
    replace H := Option.bind_eq_some_iff.mp H
    obtain ⟨t249, A50, H⟩ := H
    replace H : (if t249 = true then (some 32) else ((interlocutorref3_dash.f x0_2).bind fun t250 => (if t250 = true then (some 45) else ((interlocutorref3_quote.f x0_2).bind fun t251 => (if t251 = true then (some 39) else ((interlocutorref3_digit.f x0_2).bind fun t252 => (if t252 ≥ 0 then ((interlocutorref3_digit.f x0_2).bind fun t253 => (some (wrap64 (48 + t253)))) else ((interlocutorref3_in.f x0_2 65 90).bind fun t254 => (if t254 = true then (interlocutorref3_Rune.j2 kj2 x0_2 t254) else ((interlocutorref3_in.f x0_2 192 222).bind fun t255 => (if t255 = true then (interlocutorref3_Rune.j1 kj2 x0_2 (x0_2 != 215)) else (interlocutorref3_Rune.j1 kj2 x0_2 false)))))))))))) = some r := H
    have A5 := Aside0.mk A50
    clear A50
    by_cases c6 : t249 = true
    · subst c6
      have H1 : (some 32) = some r := by rw [if_pos rfl] at H; exact H
      clear H
      have H := H1
      clear H1
      obtain rfl := Option.some.inj H
      go_wp2_with (first | ((with_reducible refine gate_callee (f := 91) rfl ?_); refine goesL_ (some 9) rfl rfl Tryz.func91 (by kernel_rfl) rfl #[.int .i64 x0_2] rfl (by (try simp only [List.map_toArray, List.map_cons, List.map_nil]); first | done | rfl | (simp only [List.length_drop, List.length_take]; rfl)) ?_; (with_reducible refine (interlocutorref3_blank.calls x0_2 true _ A5.out).mono ?_); rintro e w' ⟨rfl, ⟨nd, rfl⟩⟩; refine ⟨_, rfl, ?_⟩))
      go_ret
      exact ⟨by first | rfl | (simp; done) | (simp [*]; done), by repeat (first | exact Drawn0.refl _ | apply Drawn0.step)⟩
    replace c6 := Bool.eq_false_iff.mpr c6
    subst c6
    have H1 : ((interlocutorref3_dash.f x0_2).bind fun t250 => (if t250 = true then (some 45) else ((interlocutorref3_quote.f x0_2).bind fun t251 => (if t251 = true then (some 39) else ((interlocutorref3_digit.f x0_2).bind fun t252 => (if t252 ≥ 0 then ((interlocutorref3_digit.f x0_2).bind fun t253 => (some (wrap64 (48 + t253)))) else ((interlocutorref3_in.f x0_2 65 90).bind fun t254 => (if t254 = true then (interlocutorref3_Rune.j2 kj2 x0_2 t254) else ((interlocutorref3_in.f x0_2 192 222).bind fun t255 => (if t255 = true then (interlocutorref3_Rune.j1 kj2 x0_2 (x0_2 != 215)) else (interlocutorref3_Rune.j1 kj2 x0_2 false))))))))))) = some r := by rw [if_neg (show ¬ (false = true) by decide)] at H; exact H
    clear H
    have H := H1
    clear H1
    replace H := Option.bind_eq_some_iff.mp H
    obtain ⟨t250, A70, H⟩ := H
    replace H : (if t250 = true then (some 45) else ((interlocutorref3_quote.f x0_2).bind fun t251 => (if t251 = true then (some 39) else ((interlocutorref3_digit.f x0_2).bind fun t252 => (if t252 ≥ 0 then ((interlocutorref3_digit.f x0_2).bind fun t253 => (some (wrap64 (48 + t253)))) else ((interlocutorref3_in.f x0_2 65 90).bind fun t254 => (if t254 = true then (interlocutorref3_Rune.j2 kj2 x0_2 t254) else ((interlocutorref3_in.f x0_2 192 222).bind fun t255 => (if t255 = true then (interlocutorref3_Rune.j1 kj2 x0_2 (x0_2 != 215)) else (interlocutorref3_Rune.j1 kj2 x0_2 false)))))))))) = some r := H
    have A7 := Aside0.mk A70
    clear A70
    by_cases c8 : t250 = true
    · subst c8
      have H1 : (some 45) = some r := by rw [if_pos rfl] at H; exact H
      clear H
      have H := H1
      clear H1
      obtain rfl := Option.some.inj H
      go_wp2_with (first | ((with_reducible refine gate_callee (f := 91) rfl ?_); refine goesL_ (some 9) rfl rfl Tryz.func91 (by kernel_rfl) rfl #[.int .i64 x0_2] rfl (by (try simp only [List.map_toArray, List.map_cons, List.map_nil]); first | done | rfl | (simp only [List.length_drop, List.length_take]; rfl)) ?_; (with_reducible refine (interlocutorref3_blank.calls x0_2 false _ A5.out).mono ?_); rintro e w' ⟨rfl, ⟨nd, rfl⟩⟩; refine ⟨_, rfl, ?_⟩) | ((with_reducible refine gate_callee (f := 92) rfl ?_); refine goesL_ (some 12) rfl rfl Tryz.func92 (by kernel_rfl) rfl #[.int .i64 x0_2] rfl (by (try simp only [List.map_toArray, List.map_cons, List.map_nil]); first | done | rfl | (simp only [List.length_drop, List.length_take]; rfl)) ?_; (with_reducible refine (interlocutorref3_dash.calls x0_2 true _ A7.out).mono ?_); rintro e w' ⟨rfl, ⟨nd, rfl⟩⟩; refine ⟨_, rfl, ?_⟩))
      go_ret
      exact ⟨by first | rfl | (simp; done) | (simp [*]; done), by repeat (first | exact Drawn0.refl _ | apply Drawn0.step)⟩
    replace c8 := Bool.eq_false_iff.mpr c8
    subst c8
    have H1 : ((interlocutorref3_quote.f x0_2).bind fun t251 => (if t251 = true then (some 39) else ((interlocutorref3_digit.f x0_2).bind fun t252 => (if t252 ≥ 0 then ((interlocutorref3_digit.f x0_2).bind fun t253 => (some (wrap64 (48 + t253)))) else ((interlocutorref3_in.f x0_2 65 90).bind fun t254 => (if t254 = true then (interlocutorref3_Rune.j2 kj2 x0_2 t254) else ((interlocutorref3_in.f x0_2 192 222).bind fun t255 => (if t255 = true then (interlocutorref3_Rune.j1 kj2 x0_2 (x0_2 != 215)) else (interlocutorref3_Rune.j1 kj2 x0_2 false))))))))) = some r := by rw [if_neg (show ¬ (false = true) by decide)] at H; exact H
    clear H
    have H := H1
    clear H1
    replace H := Option.bind_eq_some_iff.mp H
    obtain ⟨t251, A90, H⟩ := H
    replace H : (if t251 = true then (some 39) else ((interlocutorref3_digit.f x0_2).bind fun t252 => (if t252 ≥ 0 then ((interlocutorref3_digit.f x0_2).bind fun t253 => (some (wrap64 (48 + t253)))) else ((interlocutorref3_in.f x0_2 65 90).bind fun t254 => (if t254 = true then (interlocutorref3_Rune.j2 kj2 x0_2 t254) else ((interlocutorref3_in.f x0_2 192 222).bind fun t255 => (if t255 = true then (interlocutorref3_Rune.j1 kj2 x0_2 (x0_2 != 215)) else (interlocutorref3_Rune.j1 kj2 x0_2 false)))))))) = some r := H
    have A9 := Aside0.mk A90
    clear A90
    by_cases c10 : t251 = true
    · subst c10
      have H1 : (some 39) = some r := by rw [if_pos rfl] at H; exact H
      clear H
      have H := H1
      clear H1
      obtain rfl := Option.some.inj H
      go_wp2_with (first | ((with_reducible refine gate_callee (f := 91) rfl ?_); refine goesL_ (some 9) rfl rfl Tryz.func91 (by kernel_rfl) rfl #[.int .i64 x0_2] rfl (by (try simp only [List.map_toArray, List.map_cons, List.map_nil]); first | done | rfl | (simp only [List.length_drop, List.length_take]; rfl)) ?_; (with_reducible refine (interlocutorref3_blank.calls x0_2 false _ A5.out).mono ?_); rintro e w' ⟨rfl, ⟨nd, rfl⟩⟩; refine ⟨_, rfl, ?_⟩) | ((with_reducible refine gate_callee (f := 92) rfl ?_); refine goesL_ (some 12) rfl rfl Tryz.func92 (by kernel_rfl) rfl #[.int .i64 x0_2] rfl (by (try simp only [List.map_toArray, List.map_cons, List.map_nil]); first | done | rfl | (simp only [List.length_drop, List.length_take]; rfl)) ?_; (with_reducible refine (interlocutorref3_dash.calls x0_2 false _ A7.out).mono ?_); rintro e w' ⟨rfl, ⟨nd, rfl⟩⟩; refine ⟨_, rfl, ?_⟩) | ((with_reducible refine gate_callee (f := 93) rfl ?_); refine goesL_ (some 15) rfl rfl Tryz.func93 (by kernel_rfl) rfl #[.int .i64 x0_2] rfl (by (try simp only [List.map_toArray, List.map_cons, List.map_nil]); first | done | rfl | (simp only [List.length_drop, List.length_take]; rfl)) ?_; (with_reducible refine (interlocutorref3_quote.calls x0_2 true _ A9.out).mono ?_); rintro e w' ⟨rfl, ⟨nd, rfl⟩⟩; refine ⟨_, rfl, ?_⟩))
      go_ret
      exact ⟨by first | rfl | (simp; done) | (simp [*]; done), by repeat (first | exact Drawn0.refl _ | apply Drawn0.step)⟩
    replace c10 := Bool.eq_false_iff.mpr c10
    subst c10
    have H1 : ((interlocutorref3_digit.f x0_2).bind fun t252 => (if t252 ≥ 0 then ((interlocutorref3_digit.f x0_2).bind fun t253 => (some (wrap64 (48 + t253)))) else ((interlocutorref3_in.f x0_2 65 90).bind fun t254 => (if t254 = true then (interlocutorref3_Rune.j2 kj2 x0_2 t254) else ((interlocutorref3_in.f x0_2 192 222).bind fun t255 => (if t255 = true then (interlocutorref3_Rune.j1 kj2 x0_2 (x0_2 != 215)) else (interlocutorref3_Rune.j1 kj2 x0_2 false))))))) = some r := by rw [if_neg (show ¬ (false = true) by decide)] at H; exact H
    clear H
    have H := H1
    clear H1
    replace H := Option.bind_eq_some_iff.mp H
    obtain ⟨t252, A110, H⟩ := H
    replace H : (if t252 ≥ 0 then ((interlocutorref3_digit.f x0_2).bind fun t253 => (some (wrap64 (48 + t253)))) else ((interlocutorref3_in.f x0_2 65 90).bind fun t254 => (if t254 = true then (interlocutorref3_Rune.j2 kj2 x0_2 t254) else ((interlocutorref3_in.f x0_2 192 222).bind fun t255 => (if t255 = true then (interlocutorref3_Rune.j1 kj2 x0_2 (x0_2 != 215)) else (interlocutorref3_Rune.j1 kj2 x0_2 false)))))) = some r := H
    have A11 := Aside0.mk A110
    clear A110
    by_cases c12 : t252 ≥ 0
    · rw [if_pos c12] at H
      have c12b0 : decide (0 ≤ t252) = true := decide_eq_true c12
      clear c12
      replace H := Option.bind_eq_some_iff.mp H
      obtain ⟨t253, A130, H⟩ := H
      replace H : (some (wrap64 (48 + t253))) = some r := H
      have A13 := Aside0.mk A130
      clear A130
      obtain rfl := Option.some.inj H
      go_wp2_with (first | ((with_reducible refine gate_callee (f := 91) rfl ?_); refine goesL_ (some 9) rfl rfl Tryz.func91 (by kernel_rfl) rfl #[.int .i64 x0_2] rfl (by (try simp only [List.map_toArray, List.map_cons, List.map_nil]); first | done | rfl | (simp only [List.length_drop, List.length_take]; rfl)) ?_; (with_reducible refine (interlocutorref3_blank.calls x0_2 false _ A5.out).mono ?_); rintro e w' ⟨rfl, ⟨nd, rfl⟩⟩; refine ⟨_, rfl, ?_⟩) | ((with_reducible refine gate_callee (f := 92) rfl ?_); refine goesL_ (some 12) rfl rfl Tryz.func92 (by kernel_rfl) rfl #[.int .i64 x0_2] rfl (by (try simp only [List.map_toArray, List.map_cons, List.map_nil]); first | done | rfl | (simp only [List.length_drop, List.length_take]; rfl)) ?_; (with_reducible refine (interlocutorref3_dash.calls x0_2 false _ A7.out).mono ?_); rintro e w' ⟨rfl, ⟨nd, rfl⟩⟩; refine ⟨_, rfl, ?_⟩) | ((with_reducible refine gate_callee (f := 93) rfl ?_); refine goesL_ (some 15) rfl rfl Tryz.func93 (by kernel_rfl) rfl #[.int .i64 x0_2] rfl (by (try simp only [List.map_toArray, List.map_cons, List.map_nil]); first | done | rfl | (simp only [List.length_drop, List.length_take]; rfl)) ?_; (with_reducible refine (interlocutorref3_quote.calls x0_2 false _ A9.out).mono ?_); rintro e w' ⟨rfl, ⟨nd, rfl⟩⟩; refine ⟨_, rfl, ?_⟩) | ((with_reducible refine gate_callee (f := 94) rfl ?_); refine goesL_ (some 18) rfl rfl Tryz.func94 (by kernel_rfl) rfl #[.int .i64 x0_2] rfl (by (try simp only [List.map_toArray, List.map_cons, List.map_nil]); first | done | rfl | (simp only [List.length_drop, List.length_take]; rfl)) ?_; (with_reducible refine (interlocutorref3_digit.calls x0_2 t252 _ A11.out).mono ?_); rintro e w' ⟨rfl, ⟨nd, rfl⟩⟩; refine ⟨_, rfl, ?_⟩) | ((with_reducible refine gate_callee (f := 94) rfl ?_); refine goesL_ (some 21) rfl rfl Tryz.func94 (by kernel_rfl) rfl #[.int .i64 x0_2] rfl (by (try simp only [List.map_toArray, List.map_cons, List.map_nil]); first | done | rfl | (simp only [List.length_drop, List.length_take]; rfl)) ?_; (with_reducible refine (interlocutorref3_digit.calls x0_2 t253 _ A13.out).mono ?_); rintro e w' ⟨rfl, ⟨nd, rfl⟩⟩; refine ⟨_, rfl, ?_⟩))
      go_ret
      exact ⟨by first | rfl | (simp; done) | (simp [*]; done), by repeat (first | exact Drawn0.refl _ | apply Drawn0.step)⟩
    rw [if_neg c12] at H
    have c12b0 : decide (0 ≤ t252) = false := decide_eq_false c12
    clear c12
    replace H := Option.bind_eq_some_iff.mp H
    obtain ⟨t254, A140, H⟩ := H
    replace H : (if t254 = true then (interlocutorref3_Rune.j2 kj2 x0_2 t254) else ((interlocutorref3_in.f x0_2 192 222).bind fun t255 => (if t255 = true then (interlocutorref3_Rune.j1 kj2 x0_2 (x0_2 != 215)) else (interlocutorref3_Rune.j1 kj2 x0_2 false)))) = some r := H
    have A14 := Aside0.mk A140
    clear A140
    have HC15 := Aside0.mk H
    clear H
    go_upto_if 23 with (first | ((with_reducible refine gate_callee (f := 91) rfl ?_); refine goesL_ (some 9) rfl rfl Tryz.func91 (by kernel_rfl) rfl #[.int .i64 x0_2] rfl (by (try simp only [List.map_toArray, List.map_cons, List.map_nil]); first | done | rfl | (simp only [List.length_drop, List.length_take]; rfl)) ?_; (with_reducible refine (interlocutorref3_blank.calls x0_2 false _ A5.out).mono ?_); rintro e w' ⟨rfl, ⟨nd, rfl⟩⟩; refine ⟨_, rfl, ?_⟩) | ((with_reducible refine gate_callee (f := 92) rfl ?_); refine goesL_ (some 12) rfl rfl Tryz.func92 (by kernel_rfl) rfl #[.int .i64 x0_2] rfl (by (try simp only [List.map_toArray, List.map_cons, List.map_nil]); first | done | rfl | (simp only [List.length_drop, List.length_take]; rfl)) ?_; (with_reducible refine (interlocutorref3_dash.calls x0_2 false _ A7.out).mono ?_); rintro e w' ⟨rfl, ⟨nd, rfl⟩⟩; refine ⟨_, rfl, ?_⟩) | ((with_reducible refine gate_callee (f := 93) rfl ?_); refine goesL_ (some 15) rfl rfl Tryz.func93 (by kernel_rfl) rfl #[.int .i64 x0_2] rfl (by (try simp only [List.map_toArray, List.map_cons, List.map_nil]); first | done | rfl | (simp only [List.length_drop, List.length_take]; rfl)) ?_; (with_reducible refine (interlocutorref3_quote.calls x0_2 false _ A9.out).mono ?_); rintro e w' ⟨rfl, ⟨nd, rfl⟩⟩; refine ⟨_, rfl, ?_⟩) | ((with_reducible refine gate_callee (f := 94) rfl ?_); refine goesL_ (some 18) rfl rfl Tryz.func94 (by kernel_rfl) rfl #[.int .i64 x0_2] rfl (by (try simp only [List.map_toArray, List.map_cons, List.map_nil]); first | done | rfl | (simp only [List.length_drop, List.length_take]; rfl)) ?_; (with_reducible refine (interlocutorref3_digit.calls x0_2 t252 _ A11.out).mono ?_); rintro e w' ⟨rfl, ⟨nd, rfl⟩⟩; refine ⟨_, rfl, ?_⟩) | ((with_reducible refine gate_callee (f := 90) rfl ?_); refine goesL_ (some 25) rfl rfl Tryz.func90 (by kernel_rfl) rfl #[.int .i64 x0_2, .int .i64 65, .int .i64 90] rfl (by (try simp only [List.map_toArray, List.map_cons, List.map_nil]); first | done | rfl | (simp only [List.length_drop, List.length_take]; rfl)) ?_; (with_reducible refine (interlocutorref3_in.calls x0_2 65 90 t254 _ A14.out).mono ?_); rintro e w' ⟨rfl, ⟨nd, rfl⟩⟩; refine ⟨_, rfl, ?_⟩))
    (try simp only [Act.put, List.setIfInBounds_toArray, List.set_cons_zero, List.set_cons_succ])
    go_cut [23] (fun v23 wc => ∃ (kq : Nat) (x23_14 : Bool), v23 = .bool x23_14 ∧ Aside0 (interlocutorref3_Rune.j2 kq x0_2 x23_14 = some r) ∧ Aside0 (kq ≤ kj2) ∧ Drawn0 w wc)
    case first =>
     have H := HC15.out
     clear HC15
     by_cases c16 : t254 = true
     · subst c16
       have H1 : (interlocutorref3_Rune.j2 kj2 x0_2 true) = some r := by rw [if_pos rfl] at H; exact H
       clear H
       have H := H1
       clear H1
       have H' := Aside0.mk H
       clear H
       go_wp2
       go_meet
       case rel => exact ⟨_, (true), (by first | rfl | (simp; done) | (simp [*]; done)), H', ⟨by have := HJ2.out; first | omega | exact Nat.le_refl _⟩, by repeat (first | exact Drawn0.refl _ | apply Drawn0.step)⟩
     replace c16 := Bool.eq_false_iff.mpr c16
     subst c16
     have H1 : ((interlocutorref3_in.f x0_2 192 222).bind fun t255 => (if t255 = true then (interlocutorref3_Rune.j1 kj2 x0_2 (x0_2 != 215)) else (interlocutorref3_Rune.j1 kj2 x0_2 false))) = some r := by rw [if_neg (show ¬ (false = true) by decide)] at H; exact H
     clear H
     have H := H1
     clear H1
     have HC17 := Aside0.mk H
     clear H
     go_upto_region 12 with (fail)
     go_cut [23] (fun v23 wc => ∃ (kq : Nat) (x23_16 : Bool), v23 = .bool x23_16 ∧ Aside0 (interlocutorref3_Rune.j1 kq x0_2 x23_16 = some r) ∧ Aside0 (kq ≤ kj2) ∧ Drawn0 w wc)
     case first =>
      have H := HC17.out
      clear HC17
      replace H := Option.bind_eq_some_iff.mp H
      obtain ⟨t255, A180, H⟩ := H
      replace H : (if t255 = true then (interlocutorref3_Rune.j1 kj2 x0_2 (x0_2 != 215)) else (interlocutorref3_Rune.j1 kj2 x0_2 false)) = some r := H
      have A18 := Aside0.mk A180
      clear A180
      by_cases c19 : t255 = true
      · subst c19
        have H1 : (interlocutorref3_Rune.j1 kj2 x0_2 (x0_2 != 215)) = some r := by rw [if_pos rfl] at H; exact H
        clear H
        have H := H1
        clear H1
        have H' := Aside0.mk H
        clear H
        go_wp2_with (first | ((with_reducible refine gate_callee (f := 90) rfl ?_); refine goesL_ (some 27) rfl rfl Tryz.func90 (by kernel_rfl) rfl #[.int .i64 x0_2, .int .i64 192, .int .i64 222] rfl (by (try simp only [List.map_toArray, List.map_cons, List.map_nil]); first | done | rfl | (simp only [List.length_drop, List.length_take]; rfl)) ?_; (with_reducible refine (interlocutorref3_in.calls x0_2 192 222 true _ A18.out).mono ?_); rintro e w' ⟨rfl, ⟨nd, rfl⟩⟩; refine ⟨_, rfl, ?_⟩))
        go_meet
        case rel => exact ⟨_, ((x0_2 != 215)), (by first | rfl | (simp; done) | (simp [*]; done)), H', ⟨by have := HJ2.out; first | omega | exact Nat.le_refl _⟩, by repeat (first | exact Drawn0.refl _ | apply Drawn0.step)⟩
      replace c19 := Bool.eq_false_iff.mpr c19
      subst c19
      have H1 : (interlocutorref3_Rune.j1 kj2 x0_2 false) = some r := by rw [if_neg (show ¬ (false = true) by decide)] at H; exact H
      clear H
      have H := H1
      clear H1
      have H' := Aside0.mk H
      clear H
      go_wp2_with (first | ((with_reducible refine gate_callee (f := 90) rfl ?_); refine goesL_ (some 27) rfl rfl Tryz.func90 (by kernel_rfl) rfl #[.int .i64 x0_2, .int .i64 192, .int .i64 222] rfl (by (try simp only [List.map_toArray, List.map_cons, List.map_nil]); first | done | rfl | (simp only [List.length_drop, List.length_take]; rfl)) ?_; (with_reducible refine (interlocutorref3_in.calls x0_2 192 222 false _ A18.out).mono ?_); rintro e w' ⟨rfl, ⟨nd, rfl⟩⟩; refine ⟨_, rfl, ?_⟩))
      go_meet
      case rel => exact ⟨_, (false), (by first | rfl | (simp; done) | (simp [*]; done)), H', ⟨by have := HJ2.out; first | omega | exact Nat.le_refl _⟩, by repeat (first | exact Drawn0.refl _ | apply Drawn0.step)⟩
     case rest =>
      clear HC17
      try clear c1
      try clear c2
      try clear p2
      try clear c4
      try clear c6
      try clear p6
      try clear c8
      try clear c9
      try clear c10
      try clear c12
      try clear c12b0
      try clear c16
      try clear c19
      try clear p2
      obtain ⟨kq, x23_16, rfl, HA, HJ16, ⟨mc16, rfl⟩⟩ := hcut
      cases kq with
      | zero => exact absurd HA.out (by simp [interlocutorref3_Rune.j1])
      | succ kj16 =>
       have H := HA.out
       clear HA
       simp only [interlocutorref3_Rune.j1] at H
       by_cases c20 : x23_16 = true
       · subst c20
         have H1 : (interlocutorref3_Rune.j2 kj16 x0_2 true) = some r := by rw [if_pos rfl] at H; exact H
         clear H
         have H := H1
         clear H1
         have H' := Aside0.mk H
         clear H
         go_wp2
         go_meet
         case rel => exact ⟨_, (true), (by first | rfl | (simp; done) | (simp [*]; done)), H', ⟨by have := HJ2.out; have := HJ16.out; first | omega | exact Nat.le_refl _⟩, by repeat (first | exact Drawn0.refl _ | apply Drawn0.step)⟩
       replace c20 := Bool.eq_false_iff.mpr c20
       subst c20
       have H1 : ((interlocutorref3_in.f x0_2 913 937).bind fun t256 => (if t256 = true then (if x0_2 = 930 then ((interlocutorref3_in.f x0_2 1040 1071).bind fun t257 => (interlocutorref3_Rune.j2 kj16 x0_2 t257)) else (interlocutorref3_Rune.j2 kj16 x0_2 (x0_2 != 930))) else ((interlocutorref3_in.f x0_2 1040 1071).bind fun t258 => (interlocutorref3_Rune.j2 kj16 x0_2 t258)))) = some r := by rw [if_neg (show ¬ (false = true) by decide)] at H; exact H
       clear H
       have H := H1
       clear H1
       replace H := Option.bind_eq_some_iff.mp H
       obtain ⟨t256, A210, H⟩ := H
       replace H : (if t256 = true then (if x0_2 = 930 then ((interlocutorref3_in.f x0_2 1040 1071).bind fun t257 => (interlocutorref3_Rune.j2 kj16 x0_2 t257)) else (interlocutorref3_Rune.j2 kj16 x0_2 (x0_2 != 930))) else ((interlocutorref3_in.f x0_2 1040 1071).bind fun t258 => (interlocutorref3_Rune.j2 kj16 x0_2 t258))) = some r := H
       have A21 := Aside0.mk A210
       clear A210
       by_cases c22 : t256 = true
       rotate_left
       · replace c22 := Bool.eq_false_iff.mpr c22
         subst c22
         have H1 : ((interlocutorref3_in.f x0_2 1040 1071).bind fun t258 => (interlocutorref3_Rune.j2 kj16 x0_2 t258)) = some r := by rw [if_neg (show ¬ (false = true) by decide)] at H; exact H
         clear H
         have H := H1
         clear H1
         replace H := Option.bind_eq_some_iff.mp H
         obtain ⟨t258, A250, H⟩ := H
         replace H : (interlocutorref3_Rune.j2 kj16 x0_2 t258) = some r := H
         have A25 := Aside0.mk A250
         clear A250
         have H' := Aside0.mk H
         clear H
         go_wp2_with (first | ((with_reducible refine gate_callee (f := 90) rfl ?_); refine goesL_ (some 33) rfl rfl Tryz.func90 (by kernel_rfl) rfl #[.int .i64 x0_2, .int .i64 913, .int .i64 937] rfl (by (try simp only [List.map_toArray, List.map_cons, List.map_nil]); first | done | rfl | (simp only [List.length_drop, List.length_take]; rfl)) ?_; (with_reducible refine (interlocutorref3_in.calls x0_2 913 937 false _ A21.out).mono ?_); rintro e w' ⟨rfl, ⟨nd, rfl⟩⟩; refine ⟨_, rfl, ?_⟩) | ((with_reducible refine gate_callee (f := 90) rfl ?_); refine goesL_ (some 39) rfl rfl Tryz.func90 (by kernel_rfl) rfl #[.int .i64 x0_2, .int .i64 1040, .int .i64 1071] rfl (by (try simp only [List.map_toArray, List.map_cons, List.map_nil]); first | done | rfl | (simp only [List.length_drop, List.length_take]; rfl)) ?_; (with_reducible refine (interlocutorref3_in.calls x0_2 1040 1071 t258 _ A25.out).mono ?_); rintro e w' ⟨rfl, ⟨nd, rfl⟩⟩; refine ⟨_, rfl, ?_⟩))
         go_meet
         case rel => exact ⟨_, (t258), (by first | rfl | (simp; done) | (simp [*]; done)), H', ⟨by have := HJ2.out; have := HJ16.out; first | omega | exact Nat.le_refl _⟩, by repeat (first | exact Drawn0.refl _ | apply Drawn0.step)⟩
       subst c22
       have H1 : (if x0_2 = 930 then ((interlocutorref3_in.f x0_2 1040 1071).bind fun t257 => (interlocutorref3_Rune.j2 kj16 x0_2 t257)) else (interlocutorref3_Rune.j2 kj16 x0_2 (x0_2 != 930))) = some r := by rw [if_pos rfl] at H; exact H
       clear H
       have H := H1
       clear H1
       by_cases c23 : x0_2 = 930
       rotate_left
       · rw [if_neg c23] at H
         have c23b0 : (x0_2 == 930) = false := beq_eq_false_iff_ne.mpr c23
         have c23b1 : (x0_2 != 930) = true := bne_iff_ne.mpr c23
         have H' := Aside0.mk H
         clear H
         go_wp2_with (first | ((with_reducible refine gate_callee (f := 90) rfl ?_); refine goesL_ (some 33) rfl rfl Tryz.func90 (by kernel_rfl) rfl #[.int .i64 x0_2, .int .i64 913, .int .i64 937] rfl (by (try simp only [List.map_toArray, List.map_cons, List.map_nil]); first | done | rfl | (simp only [List.length_drop, List.length_take]; rfl)) ?_; (with_reducible refine (interlocutorref3_in.calls x0_2 913 937 true _ A21.out).mono ?_); rintro e w' ⟨rfl, ⟨nd, rfl⟩⟩; refine ⟨_, rfl, ?_⟩))
         go_meet
         case rel => exact ⟨_, ((x0_2 != 930)), (by first | rfl | (simp; done) | (simp [*]; done)), H', ⟨by have := HJ2.out; have := HJ16.out; first | omega | exact Nat.le_refl _⟩, by repeat (first | exact Drawn0.refl _ | apply Drawn0.step)⟩
       rw [if_pos c23] at H
       have c23b0 : (x0_2 == 930) = true := beq_iff_eq.mpr c23
       have c23b1 : (x0_2 != 930) = false := bne_eq_false_iff_eq.mpr c23
       clear c23
       replace H := Option.bind_eq_some_iff.mp H
       obtain ⟨t257, A240, H⟩ := H
       replace H : (interlocutorref3_Rune.j2 kj16 x0_2 t257) = some r := H
       have A24 := Aside0.mk A240
       clear A240
       have H' := Aside0.mk H
       clear H
       go_wp2_with (first | ((with_reducible refine gate_callee (f := 90) rfl ?_); refine goesL_ (some 33) rfl rfl Tryz.func90 (by kernel_rfl) rfl #[.int .i64 x0_2, .int .i64 913, .int .i64 937] rfl (by (try simp only [List.map_toArray, List.map_cons, List.map_nil]); first | done | rfl | (simp only [List.length_drop, List.length_take]; rfl)) ?_; (with_reducible refine (interlocutorref3_in.calls x0_2 913 937 true _ A21.out).mono ?_); rintro e w' ⟨rfl, ⟨nd, rfl⟩⟩; refine ⟨_, rfl, ?_⟩) | ((with_reducible refine gate_callee (f := 90) rfl ?_); refine goesL_ (some 39) rfl rfl Tryz.func90 (by kernel_rfl) rfl #[.int .i64 x0_2, .int .i64 1040, .int .i64 1071] rfl (by (try simp only [List.map_toArray, List.map_cons, List.map_nil]); first | done | rfl | (simp only [List.length_drop, List.length_take]; rfl)) ?_; (with_reducible refine (interlocutorref3_in.calls x0_2 1040 1071 t257 _ A24.out).mono ?_); rintro e w' ⟨rfl, ⟨nd, rfl⟩⟩; refine ⟨_, rfl, ?_⟩))
       go_meet
       case rel => exact ⟨_, (t257), (by first | rfl | (simp; done) | (simp [*]; done)), H', ⟨by have := HJ2.out; have := HJ16.out; first | omega | exact Nat.le_refl _⟩, by repeat (first | exact Drawn0.refl _ | apply Drawn0.step)⟩
    case rest =>
     clear HC15
     try clear c1
     try clear c2
     try clear p2
     try clear c4
     try clear c6
     try clear p6
     try clear c8
     try clear c9
     try clear c10
     try clear c12
     try clear c12b0
     try clear c16
     try clear c19
     try clear c20
     try clear c22
     try clear c23
     try clear c23b0
     try clear c23b1
     try clear p2
     try clear p6
     obtain ⟨kq, x23_14, rfl, HA, HJ14, ⟨mc14, rfl⟩⟩ := hcut
     cases kq with
     | zero => exact absurd HA.out (by simp [interlocutorref3_Rune.j2])
     | succ kj14 =>
      have H := HA.out
      clear HA
      simp only [interlocutorref3_Rune.j2] at H
      by_cases c26 : x23_14 = true
      · subst c26
        have H1 : (some (wrap64 (x0_2 + 32))) = some r := by rw [if_pos rfl] at H; exact H
        clear H
        have H := H1
        clear H1
        obtain rfl := Option.some.inj H
        go_wp2
        go_ret
        exact ⟨by first | rfl | (simp; done) | (simp [*]; done), by repeat (first | exact Drawn0.refl _ | apply Drawn0.step)⟩
      replace c26 := Bool.eq_false_iff.mpr c26
      subst c26
      have H1 : ((interlocutorref3_in.f x0_2 1024 1039).bind fun t259 => (if t259 = true then (some (wrap64 (x0_2 + 80))) else (some x0_2))) = some r := by rw [if_neg (show ¬ (false = true) by decide)] at H; exact H
      clear H
      have H := H1
      clear H1
      replace H := Option.bind_eq_some_iff.mp H
      obtain ⟨t259, A270, H⟩ := H
      replace H : (if t259 = true then (some (wrap64 (x0_2 + 80))) else (some x0_2)) = some r := H
      have A27 := Aside0.mk A270
      clear A270
      by_cases c28 : t259 = true
      · subst c28
        have H1 : (some (wrap64 (x0_2 + 80))) = some r := by rw [if_pos rfl] at H; exact H
        clear H
        have H := H1
        clear H1
        obtain rfl := Option.some.inj H
        go_wp2_with (first | ((with_reducible refine gate_callee (f := 90) rfl ?_); refine goesL_ (some 44) rfl rfl Tryz.func90 (by kernel_rfl) rfl #[.int .i64 x0_2, .int .i64 1024, .int .i64 1039] rfl (by (try simp only [List.map_toArray, List.map_cons, List.map_nil]); first | done | rfl | (simp only [List.length_drop, List.length_take]; rfl)) ?_; (with_reducible refine (interlocutorref3_in.calls x0_2 1024 1039 true _ A27.out).mono ?_); rintro e w' ⟨rfl, ⟨nd, rfl⟩⟩; refine ⟨_, rfl, ?_⟩))
        go_ret
        exact ⟨by first | rfl | (simp; done) | (simp [*]; done), by repeat (first | exact Drawn0.refl _ | apply Drawn0.step)⟩
      replace c28 := Bool.eq_false_iff.mpr c28
      subst c28
      have H1 : (some x0_2) = some r := by rw [if_neg (show ¬ (false = true) by decide)] at H; exact H
      clear H
      have H := H1
      clear H1
      obtain rfl := Option.some.inj H
      go_wp2_with (first | ((with_reducible refine gate_callee (f := 90) rfl ?_); refine goesL_ (some 44) rfl rfl Tryz.func90 (by kernel_rfl) rfl #[.int .i64 x0_2, .int .i64 1024, .int .i64 1039] rfl (by (try simp only [List.map_toArray, List.map_cons, List.map_nil]); first | done | rfl | (simp only [List.length_drop, List.length_take]; rfl)) ?_; (with_reducible refine (interlocutorref3_in.calls x0_2 1024 1039 false _ A27.out).mono ?_); rintro e w' ⟨rfl, ⟨nd, rfl⟩⟩; refine ⟨_, rfl, ?_⟩))
      go_ret
      exact ⟨by first | rfl | (simp; done) | (simp [*]; done), by repeat (first | exact Drawn0.refl _ | apply Drawn0.step)⟩
end Go.Proofs.YtjijikgandkphaaGreatDoor.G
