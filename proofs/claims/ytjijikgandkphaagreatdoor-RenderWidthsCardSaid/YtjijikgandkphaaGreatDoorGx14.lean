import Derived.Test.YtjijikgandkphaaGreatDoorGx0
import Derived.Test.YtjijikgandkphaaGreatDoorGx13
namespace Go.Proofs.YtjijikgandkphaaGreatDoor.G
open Go.RowKit Go.Proofs.YtjijikgandkphaaGreatDoorW.PrintWords Go.Proofs.YtjijikgandkphaaGreatDoorW.PrintLast Go.Proofs.YtjijikgandkphaaGreatDoorW.PrintMore Go.Proofs.YtjijikgandkphaaGreatDoorW.VWords Go.Proofs.YtjijikgandkphaaGreatDoorW.Tab
attribute [local go_sem] max2_int min2_int max_two min_two max_three min_three max_four min_four
set_option linter.unusedVariables false
set_option linter.unusedSimpArgs false
def act_decimal.f (l0 : List Int) : Option (Bool) := if 0 < (l0.length : Int) then (if (rd l0 0) ≤ (-1000000000000000000) then (some false) else (if (rd l0 0) ≥ 1000000000000000000 then (some false) else (if 1 < (l0.length : Int) then (if (rd l0 1) < 0 then (some false) else (if (rd l0 1) > 18 then (some false) else ((dec_Norm.f (rd l0 0) (rd l0 1)).bind fun bt141 => (if bt141.1 = (rd l0 0) then (some (bt141.2 == (rd l0 1))) else (some false))))) else (none)))) else (none)
set_option maxHeartbeats 8000000 in
set_option maxRecDepth 100000 in
theorem act_decimal.calls (A0 : Option Addr) (c0 : Nat) (l0 : List Int) (r : Bool) (w : World) (hr0 : Kd.C (Kd.int .i64) w A0 l0.length l0) (hc0 : l0.length ≤ c0) (h : act_decimal.f l0 = some r) :
  Calls Tryz.prog 53 #[.slice A0 l0.length c0] w fun e w' => e = .returned (.bool r) ∧ Drawn0 w w' := by
 have HR0 := Aside0.mk hr0
 have HC0 := Aside0.mk hc0
 clear hr0 hc0
 have H : (if 0 < (l0.length : Int) then (if (rd l0 0) ≤ (-1000000000000000000) then (some false) else (if (rd l0 0) ≥ 1000000000000000000 then (some false) else (if 1 < (l0.length : Int) then (if (rd l0 1) < 0 then (some false) else (if (rd l0 1) > 18 then (some false) else ((dec_Norm.f (rd l0 0) (rd l0 1)).bind fun bt141 => (if bt141.1 = (rd l0 0) then (some (bt141.2 == (rd l0 1))) else (some false))))) else (none)))) else (none)) = some r := h
 clear h
 by_cases c2 : 0 < (l0.length : Int)
 rotate_left
 ·rw [if_neg c2] at H
  exact absurd H (by simp)
 rw [if_pos c2] at H
 have c2b0 : decide (0 < (l0.length : Int)) = true := decide_eq_true c2
 have c2b1 : decide (0 < l0.length) = true := decide_eq_true (by omega)
 clear c2
 by_cases c3 : (rd l0 0) ≤ (-1000000000000000000)
 ·rw [if_pos c3] at H
  have c3b0 : decide ((rd l0 0) ≤ (-1000000000000000000)) = true := decide_eq_true c3
  clear c3
  obtain rfl := Option.some.inj H
  have p135 : 0 ≤ (0 : Int) := (by omega)
  have q135 : 0 < (l0.length : Int) := of_decide_eq_true (by first | (with_reducible assumption) | assumption)
  obtain ⟨ad135, e135, hx135_0⟩ := Kd.at_int HR0.out 0 p135 q135
  cases e135
  have qi135 : (0 < l0.length) = True := eq_true (by omega)
  (try rw [show ((0 : Int)).toNat = 0 from rfl] at hx135_0)
  (try rw [Addr.add_zero'] at hx135_0)
  replace p135 := eq_true p135
  replace q135 := eq_true q135
  go_enter Tryz.func53, Tryz.ntmps53
  go_wp2
  repeat (go_quiet (fail); try go_wp2)
  go_ret
  exact ⟨by first | rfl | (simp; done) | (simp [*]; done), by repeat (first | exact Drawn0.refl _ | apply Drawn0.step)⟩
 rw [if_neg c3] at H
 have c3b0 : decide ((rd l0 0) ≤ (-1000000000000000000)) = false := decide_eq_false c3
 clear c3
 by_cases c4 : (rd l0 0) ≥ 1000000000000000000
 ·rw [if_pos c4] at H
  have c4b0 : decide (1000000000000000000 ≤ (rd l0 0)) = true := decide_eq_true c4
  clear c4
  obtain rfl := Option.some.inj H
  have p135 : 0 ≤ (0 : Int) := (by omega)
  have q135 : 0 < (l0.length : Int) := of_decide_eq_true (by first | (with_reducible assumption) | assumption)
  obtain ⟨ad135, e135, hx135_0⟩ := Kd.at_int HR0.out 0 p135 q135
  cases e135
  have qi135 : (0 < l0.length) = True := eq_true (by omega)
  (try rw [show ((0 : Int)).toNat = 0 from rfl] at hx135_0)
  (try rw [Addr.add_zero'] at hx135_0)
  replace p135 := eq_true p135
  replace q135 := eq_true q135
  have p136 : 0 ≤ (0 : Int) := (by omega)
  have q136 : 0 < (l0.length : Int) := of_decide_eq_true (by first | (with_reducible assumption) | assumption)
  obtain ⟨ad136, e136, hx136_0⟩ := Kd.at_int HR0.out 0 p136 q136
  obtain rfl : ad135 = ad136 := (by injection e136)
  have qi136 : (0 < l0.length) = True := eq_true (by omega)
  (try rw [show ((0 : Int)).toNat = 0 from rfl] at hx136_0)
  (try rw [Addr.add_zero'] at hx136_0)
  replace p136 := eq_true p136
  replace q136 := eq_true q136
  go_enter Tryz.func53, Tryz.ntmps53
  go_wp2
  repeat (go_quiet (fail); try go_wp2)
  go_ret
  exact ⟨by first | rfl | (simp; done) | (simp [*]; done), by repeat (first | exact Drawn0.refl _ | apply Drawn0.step)⟩
 rw [if_neg c4] at H
 have c4b0 : decide (1000000000000000000 ≤ (rd l0 0)) = false := decide_eq_false c4
 clear c4
 by_cases c5 : 1 < (l0.length : Int)
 rotate_left
 ·rw [if_neg c5] at H
  exact absurd H (by simp)
 rw [if_pos c5] at H
 have c5b0 : decide (1 < (l0.length : Int)) = true := decide_eq_true c5
 have c5b1 : decide (1 < l0.length) = true := decide_eq_true (by omega)
 clear c5
 by_cases c6 : (rd l0 1) < 0
 ·rw [if_pos c6] at H
  have c6b0 : decide ((rd l0 1) < 0) = true := decide_eq_true c6
  clear c6
  obtain rfl := Option.some.inj H
  have p135 : 0 ≤ (0 : Int) := (by omega)
  have q135 : 0 < (l0.length : Int) := of_decide_eq_true (by first | (with_reducible assumption) | assumption)
  obtain ⟨ad135, e135, hx135_0⟩ := Kd.at_int HR0.out 0 p135 q135
  cases e135
  have qi135 : (0 < l0.length) = True := eq_true (by omega)
  (try rw [show ((0 : Int)).toNat = 0 from rfl] at hx135_0)
  (try rw [Addr.add_zero'] at hx135_0)
  replace p135 := eq_true p135
  replace q135 := eq_true q135
  have p136 : 0 ≤ (0 : Int) := (by omega)
  have q136 : 0 < (l0.length : Int) := of_decide_eq_true (by first | (with_reducible assumption) | assumption)
  obtain ⟨ad136, e136, hx136_0⟩ := Kd.at_int HR0.out 0 p136 q136
  obtain rfl : ad135 = ad136 := (by injection e136)
  have qi136 : (0 < l0.length) = True := eq_true (by omega)
  (try rw [show ((0 : Int)).toNat = 0 from rfl] at hx136_0)
  (try rw [Addr.add_zero'] at hx136_0)
  replace p136 := eq_true p136
  replace q136 := eq_true q136
  have p137 : 0 ≤ (1 : Int) := (by omega)
  have q137 : 1 < (l0.length : Int) := of_decide_eq_true (by first | (with_reducible assumption) | assumption)
  obtain ⟨ad137, e137, hx137_0⟩ := Kd.at_int HR0.out 1 p137 q137
  obtain rfl : ad135 = ad137 := (by injection e137)
  (try simp only [show (1 : Int).toNat = 1 from rfl, Nat.reduceMul, Nat.reduceEqDiff, Go.Addr.add, ↓reduceIte] at hx137_0)
  have qi137 : (1 < l0.length) = True := eq_true (by omega)
  (try rw [show ((1 : Int)).toNat = 1 from rfl] at hx137_0)
  replace p137 := eq_true p137
  replace q137 := eq_true q137
  go_enter Tryz.func53, Tryz.ntmps53
  go_wp2
  repeat (go_quiet (fail); try go_wp2)
  go_ret
  exact ⟨by first | rfl | (simp; done) | (simp [*]; done), by repeat (first | exact Drawn0.refl _ | apply Drawn0.step)⟩
 rw [if_neg c6] at H
 have c6b0 : decide ((rd l0 1) < 0) = false := decide_eq_false c6
 clear c6
 by_cases c7 : (rd l0 1) > 18
 ·rw [if_pos c7] at H
  have c7b0 : decide (18 < (rd l0 1)) = true := decide_eq_true c7
  clear c7
  obtain rfl := Option.some.inj H
  have p135 : 0 ≤ (0 : Int) := (by omega)
  have q135 : 0 < (l0.length : Int) := of_decide_eq_true (by first | (with_reducible assumption) | assumption)
  obtain ⟨ad135, e135, hx135_0⟩ := Kd.at_int HR0.out 0 p135 q135
  cases e135
  have qi135 : (0 < l0.length) = True := eq_true (by omega)
  (try rw [show ((0 : Int)).toNat = 0 from rfl] at hx135_0)
  (try rw [Addr.add_zero'] at hx135_0)
  replace p135 := eq_true p135
  replace q135 := eq_true q135
  have p136 : 0 ≤ (0 : Int) := (by omega)
  have q136 : 0 < (l0.length : Int) := of_decide_eq_true (by first | (with_reducible assumption) | assumption)
  obtain ⟨ad136, e136, hx136_0⟩ := Kd.at_int HR0.out 0 p136 q136
  obtain rfl : ad135 = ad136 := (by injection e136)
  have qi136 : (0 < l0.length) = True := eq_true (by omega)
  (try rw [show ((0 : Int)).toNat = 0 from rfl] at hx136_0)
  (try rw [Addr.add_zero'] at hx136_0)
  replace p136 := eq_true p136
  replace q136 := eq_true q136
  have p137 : 0 ≤ (1 : Int) := (by omega)
  have q137 : 1 < (l0.length : Int) := of_decide_eq_true (by first | (with_reducible assumption) | assumption)
  obtain ⟨ad137, e137, hx137_0⟩ := Kd.at_int HR0.out 1 p137 q137
  obtain rfl : ad135 = ad137 := (by injection e137)
  (try simp only [show (1 : Int).toNat = 1 from rfl, Nat.reduceMul, Nat.reduceEqDiff, Go.Addr.add, ↓reduceIte] at hx137_0)
  have qi137 : (1 < l0.length) = True := eq_true (by omega)
  (try rw [show ((1 : Int)).toNat = 1 from rfl] at hx137_0)
  replace p137 := eq_true p137
  replace q137 := eq_true q137
  have p138 : 0 ≤ (1 : Int) := (by omega)
  have q138 : 1 < (l0.length : Int) := of_decide_eq_true (by first | (with_reducible assumption) | assumption)
  obtain ⟨ad138, e138, hx138_0⟩ := Kd.at_int HR0.out 1 p138 q138
  obtain rfl : ad135 = ad138 := (by injection e138)
  (try simp only [show (1 : Int).toNat = 1 from rfl, Nat.reduceMul, Nat.reduceEqDiff, Go.Addr.add, ↓reduceIte] at hx138_0)
  have qi138 : (1 < l0.length) = True := eq_true (by omega)
  (try rw [show ((1 : Int)).toNat = 1 from rfl] at hx138_0)
  replace p138 := eq_true p138
  replace q138 := eq_true q138
  go_enter Tryz.func53, Tryz.ntmps53
  go_wp2
  repeat (go_quiet (fail); try go_wp2)
  go_ret
  exact ⟨by first | rfl | (simp; done) | (simp [*]; done), by repeat (first | exact Drawn0.refl _ | apply Drawn0.step)⟩
 rw [if_neg c7] at H
 have c7b0 : decide (18 < (rd l0 1)) = false := decide_eq_false c7
 clear c7
 replace H := Option.bind_eq_some_iff.mp H
 obtain ⟨⟨t141, t142⟩, A80, H⟩ := H
 replace H : (if t141 = (rd l0 0) then (some (t142 == (rd l0 1))) else (some false)) = some r := H
 have A8 := Aside0.mk A80
 clear A80
 by_cases c9 : t141 = (rd l0 0)
 rotate_left
 ·rw [if_neg c9] at H
  have c9b0 : (t141 == (rd l0 0)) = false := beq_eq_false_iff_ne.mpr c9
  have c9b1 : (t141 != (rd l0 0)) = true := bne_iff_ne.mpr c9
  obtain rfl := Option.some.inj H
  have p135 : 0 ≤ (0 : Int) := (by omega)
  have q135 : 0 < (l0.length : Int) := of_decide_eq_true (by first | (with_reducible assumption) | assumption)
  obtain ⟨ad135, e135, hx135_0⟩ := Kd.at_int HR0.out 0 p135 q135
  cases e135
  have qi135 : (0 < l0.length) = True := eq_true (by omega)
  (try rw [show ((0 : Int)).toNat = 0 from rfl] at hx135_0)
  (try rw [Addr.add_zero'] at hx135_0)
  replace p135 := eq_true p135
  replace q135 := eq_true q135
  have p136 : 0 ≤ (0 : Int) := (by omega)
  have q136 : 0 < (l0.length : Int) := of_decide_eq_true (by first | (with_reducible assumption) | assumption)
  obtain ⟨ad136, e136, hx136_0⟩ := Kd.at_int HR0.out 0 p136 q136
  obtain rfl : ad135 = ad136 := (by injection e136)
  have qi136 : (0 < l0.length) = True := eq_true (by omega)
  (try rw [show ((0 : Int)).toNat = 0 from rfl] at hx136_0)
  (try rw [Addr.add_zero'] at hx136_0)
  replace p136 := eq_true p136
  replace q136 := eq_true q136
  have p137 : 0 ≤ (1 : Int) := (by omega)
  have q137 : 1 < (l0.length : Int) := of_decide_eq_true (by first | (with_reducible assumption) | assumption)
  obtain ⟨ad137, e137, hx137_0⟩ := Kd.at_int HR0.out 1 p137 q137
  obtain rfl : ad135 = ad137 := (by injection e137)
  (try simp only [show (1 : Int).toNat = 1 from rfl, Nat.reduceMul, Nat.reduceEqDiff, Go.Addr.add, ↓reduceIte] at hx137_0)
  have qi137 : (1 < l0.length) = True := eq_true (by omega)
  (try rw [show ((1 : Int)).toNat = 1 from rfl] at hx137_0)
  replace p137 := eq_true p137
  replace q137 := eq_true q137
  have p138 : 0 ≤ (1 : Int) := (by omega)
  have q138 : 1 < (l0.length : Int) := of_decide_eq_true (by first | (with_reducible assumption) | assumption)
  obtain ⟨ad138, e138, hx138_0⟩ := Kd.at_int HR0.out 1 p138 q138
  obtain rfl : ad135 = ad138 := (by injection e138)
  (try simp only [show (1 : Int).toNat = 1 from rfl, Nat.reduceMul, Nat.reduceEqDiff, Go.Addr.add, ↓reduceIte] at hx138_0)
  have qi138 : (1 < l0.length) = True := eq_true (by omega)
  (try rw [show ((1 : Int)).toNat = 1 from rfl] at hx138_0)
  replace p138 := eq_true p138
  replace q138 := eq_true q138
  have p139 : 0 ≤ (0 : Int) := (by omega)
  have q139 : 0 < (l0.length : Int) := of_decide_eq_true (by first | (with_reducible assumption) | assumption)
  obtain ⟨ad139, e139, hx139_0⟩ := Kd.at_int HR0.out 0 p139 q139
  obtain rfl : ad135 = ad139 := (by injection e139)
  have qi139 : (0 < l0.length) = True := eq_true (by omega)
  (try rw [show ((0 : Int)).toNat = 0 from rfl] at hx139_0)
  (try rw [Addr.add_zero'] at hx139_0)
  replace p139 := eq_true p139
  replace q139 := eq_true q139
  have p140 : 0 ≤ (1 : Int) := (by omega)
  have q140 : 1 < (l0.length : Int) := of_decide_eq_true (by first | (with_reducible assumption) | assumption)
  obtain ⟨ad140, e140, hx140_0⟩ := Kd.at_int HR0.out 1 p140 q140
  obtain rfl : ad135 = ad140 := (by injection e140)
  (try simp only [show (1 : Int).toNat = 1 from rfl, Nat.reduceMul, Nat.reduceEqDiff, Go.Addr.add, ↓reduceIte] at hx140_0)
  have qi140 : (1 < l0.length) = True := eq_true (by omega)
  (try rw [show ((1 : Int)).toNat = 1 from rfl] at hx140_0)
  replace p140 := eq_true p140
  replace q140 := eq_true q140
  go_enter Tryz.func53, Tryz.ntmps53
  go_wp2_with (first | (go_at_call 76; (with_reducible refine (dec_Norm.calls (rd l0 0) (rd l0 1) t141 t142 _ A8.out).mono ?_); rintro e w' ⟨rfl, ⟨nd, rfl⟩⟩; (try first | exact ⟨rfl, _, World.drewN_drewN _ _ _⟩ | exact ⟨rfl, _, Eq.trans (World.drewN_drewN _ _ _) (congrArg (World.drewN _) (Nat.add_assoc _ _ _))⟩); have p143 : 0 ≤ (0 : Int) := (by omega); have q143 : 0 < (l0.length : Int) := of_decide_eq_true (by first | (with_reducible assumption) | assumption); obtain ⟨ad143, e143, hx143_0⟩ := Kd.at_int HR0.out 0 p143 q143; obtain rfl : ad135 = ad143 := (by injection e143); have qi143 : (0 < l0.length) = True := eq_true (by omega); (try rw [show ((0 : Int)).toNat = 0 from rfl] at hx143_0); (try rw [Addr.add_zero'] at hx143_0); replace p143 := eq_true p143; replace q143 := eq_true q143))
  repeat (go_quiet (first | (go_at_call 76; (with_reducible refine (dec_Norm.calls (rd l0 0) (rd l0 1) t141 t142 _ A8.out).mono ?_); rintro e w' ⟨rfl, ⟨nd, rfl⟩⟩; (try first | exact ⟨rfl, _, World.drewN_drewN _ _ _⟩ | exact ⟨rfl, _, Eq.trans (World.drewN_drewN _ _ _) (congrArg (World.drewN _) (Nat.add_assoc _ _ _))⟩); have p143 : 0 ≤ (0 : Int) := (by omega); have q143 : 0 < (l0.length : Int) := of_decide_eq_true (by first | (with_reducible assumption) | assumption); obtain ⟨ad143, e143, hx143_0⟩ := Kd.at_int HR0.out 0 p143 q143; obtain rfl : ad135 = ad143 := (by injection e143); have qi143 : (0 < l0.length) = True := eq_true (by omega); (try rw [show ((0 : Int)).toNat = 0 from rfl] at hx143_0); (try rw [Addr.add_zero'] at hx143_0); replace p143 := eq_true p143; replace q143 := eq_true q143)); try go_wp2_with (first | (go_at_call 76; (with_reducible refine (dec_Norm.calls (rd l0 0) (rd l0 1) t141 t142 _ A8.out).mono ?_); rintro e w' ⟨rfl, ⟨nd, rfl⟩⟩; (try first | exact ⟨rfl, _, World.drewN_drewN _ _ _⟩ | exact ⟨rfl, _, Eq.trans (World.drewN_drewN _ _ _) (congrArg (World.drewN _) (Nat.add_assoc _ _ _))⟩); have p143 : 0 ≤ (0 : Int) := (by omega); have q143 : 0 < (l0.length : Int) := of_decide_eq_true (by first | (with_reducible assumption) | assumption); obtain ⟨ad143, e143, hx143_0⟩ := Kd.at_int HR0.out 0 p143 q143; obtain rfl : ad135 = ad143 := (by injection e143); have qi143 : (0 < l0.length) = True := eq_true (by omega); (try rw [show ((0 : Int)).toNat = 0 from rfl] at hx143_0); (try rw [Addr.add_zero'] at hx143_0); replace p143 := eq_true p143; replace q143 := eq_true q143)))
  go_ret
  exact ⟨by first | rfl | (simp; done) | (simp [*]; done), by repeat (first | exact Drawn0.refl _ | apply Drawn0.step)⟩
 rw [if_pos c9] at H
 have c9b0 : (t141 == (rd l0 0)) = true := beq_iff_eq.mpr c9
 have c9b1 : (t141 != (rd l0 0)) = false := bne_eq_false_iff_eq.mpr c9
 clear c9
 obtain rfl := Option.some.inj H
 have p135 : 0 ≤ (0 : Int) := (by omega)
 have q135 : 0 < (l0.length : Int) := of_decide_eq_true (by first | (with_reducible assumption) | assumption)
 obtain ⟨ad135, e135, hx135_0⟩ := Kd.at_int HR0.out 0 p135 q135
 cases e135
 have qi135 : (0 < l0.length) = True := eq_true (by omega)
 (try rw [show ((0 : Int)).toNat = 0 from rfl] at hx135_0)
 (try rw [Addr.add_zero'] at hx135_0)
 replace p135 := eq_true p135
 replace q135 := eq_true q135
 have p136 : 0 ≤ (0 : Int) := (by omega)
 have q136 : 0 < (l0.length : Int) := of_decide_eq_true (by first | (with_reducible assumption) | assumption)
 obtain ⟨ad136, e136, hx136_0⟩ := Kd.at_int HR0.out 0 p136 q136
 obtain rfl : ad135 = ad136 := (by injection e136)
 have qi136 : (0 < l0.length) = True := eq_true (by omega)
 (try rw [show ((0 : Int)).toNat = 0 from rfl] at hx136_0)
 (try rw [Addr.add_zero'] at hx136_0)
 replace p136 := eq_true p136
 replace q136 := eq_true q136
 have p137 : 0 ≤ (1 : Int) := (by omega)
 have q137 : 1 < (l0.length : Int) := of_decide_eq_true (by first | (with_reducible assumption) | assumption)
 obtain ⟨ad137, e137, hx137_0⟩ := Kd.at_int HR0.out 1 p137 q137
 obtain rfl : ad135 = ad137 := (by injection e137)
 (try simp only [show (1 : Int).toNat = 1 from rfl, Nat.reduceMul, Nat.reduceEqDiff, Go.Addr.add, ↓reduceIte] at hx137_0)
 have qi137 : (1 < l0.length) = True := eq_true (by omega)
 (try rw [show ((1 : Int)).toNat = 1 from rfl] at hx137_0)
 replace p137 := eq_true p137
 replace q137 := eq_true q137
 have p138 : 0 ≤ (1 : Int) := (by omega)
 have q138 : 1 < (l0.length : Int) := of_decide_eq_true (by first | (with_reducible assumption) | assumption)
 obtain ⟨ad138, e138, hx138_0⟩ := Kd.at_int HR0.out 1 p138 q138
 obtain rfl : ad135 = ad138 := (by injection e138)
 (try simp only [show (1 : Int).toNat = 1 from rfl, Nat.reduceMul, Nat.reduceEqDiff, Go.Addr.add, ↓reduceIte] at hx138_0)
 have qi138 : (1 < l0.length) = True := eq_true (by omega)
 (try rw [show ((1 : Int)).toNat = 1 from rfl] at hx138_0)
 replace p138 := eq_true p138
 replace q138 := eq_true q138
 have p139 : 0 ≤ (0 : Int) := (by omega)
 have q139 : 0 < (l0.length : Int) := of_decide_eq_true (by first | (with_reducible assumption) | assumption)
 obtain ⟨ad139, e139, hx139_0⟩ := Kd.at_int HR0.out 0 p139 q139
 obtain rfl : ad135 = ad139 := (by injection e139)
 have qi139 : (0 < l0.length) = True := eq_true (by omega)
 (try rw [show ((0 : Int)).toNat = 0 from rfl] at hx139_0)
 (try rw [Addr.add_zero'] at hx139_0)
 replace p139 := eq_true p139
 replace q139 := eq_true q139
 have p140 : 0 ≤ (1 : Int) := (by omega)
 have q140 : 1 < (l0.length : Int) := of_decide_eq_true (by first | (with_reducible assumption) | assumption)
 obtain ⟨ad140, e140, hx140_0⟩ := Kd.at_int HR0.out 1 p140 q140
 obtain rfl : ad135 = ad140 := (by injection e140)
 (try simp only [show (1 : Int).toNat = 1 from rfl, Nat.reduceMul, Nat.reduceEqDiff, Go.Addr.add, ↓reduceIte] at hx140_0)
 have qi140 : (1 < l0.length) = True := eq_true (by omega)
 (try rw [show ((1 : Int)).toNat = 1 from rfl] at hx140_0)
 replace p140 := eq_true p140
 replace q140 := eq_true q140
 go_enter Tryz.func53, Tryz.ntmps53
 go_wp2_with (first | (go_at_call 76; (with_reducible refine (dec_Norm.calls (rd l0 0) (rd l0 1) t141 t142 _ A8.out).mono ?_); rintro e w' ⟨rfl, ⟨nd, rfl⟩⟩; (try first | exact ⟨rfl, _, World.drewN_drewN _ _ _⟩ | exact ⟨rfl, _, Eq.trans (World.drewN_drewN _ _ _) (congrArg (World.drewN _) (Nat.add_assoc _ _ _))⟩); have p143 : 0 ≤ (0 : Int) := (by omega); have q143 : 0 < (l0.length : Int) := of_decide_eq_true (by first | (with_reducible assumption) | assumption); obtain ⟨ad143, e143, hx143_0⟩ := Kd.at_int HR0.out 0 p143 q143; obtain rfl : ad135 = ad143 := (by injection e143); have qi143 : (0 < l0.length) = True := eq_true (by omega); (try rw [show ((0 : Int)).toNat = 0 from rfl] at hx143_0); (try rw [Addr.add_zero'] at hx143_0); replace p143 := eq_true p143; replace q143 := eq_true q143; have p144 : 0 ≤ (1 : Int) := (by omega); have q144 : 1 < (l0.length : Int) := of_decide_eq_true (by first | (with_reducible assumption) | assumption); obtain ⟨ad144, e144, hx144_0⟩ := Kd.at_int HR0.out 1 p144 q144; obtain rfl : ad135 = ad144 := (by injection e144); (try simp only [show (1 : Int).toNat = 1 from rfl, Nat.reduceMul, Nat.reduceEqDiff, Go.Addr.add, ↓reduceIte] at hx144_0); have qi144 : (1 < l0.length) = True := eq_true (by omega); (try rw [show ((1 : Int)).toNat = 1 from rfl] at hx144_0); replace p144 := eq_true p144; replace q144 := eq_true q144))
 repeat (go_quiet (first | (go_at_call 76; (with_reducible refine (dec_Norm.calls (rd l0 0) (rd l0 1) t141 t142 _ A8.out).mono ?_); rintro e w' ⟨rfl, ⟨nd, rfl⟩⟩; (try first | exact ⟨rfl, _, World.drewN_drewN _ _ _⟩ | exact ⟨rfl, _, Eq.trans (World.drewN_drewN _ _ _) (congrArg (World.drewN _) (Nat.add_assoc _ _ _))⟩); have p143 : 0 ≤ (0 : Int) := (by omega); have q143 : 0 < (l0.length : Int) := of_decide_eq_true (by first | (with_reducible assumption) | assumption); obtain ⟨ad143, e143, hx143_0⟩ := Kd.at_int HR0.out 0 p143 q143; obtain rfl : ad135 = ad143 := (by injection e143); have qi143 : (0 < l0.length) = True := eq_true (by omega); (try rw [show ((0 : Int)).toNat = 0 from rfl] at hx143_0); (try rw [Addr.add_zero'] at hx143_0); replace p143 := eq_true p143; replace q143 := eq_true q143; have p144 : 0 ≤ (1 : Int) := (by omega); have q144 : 1 < (l0.length : Int) := of_decide_eq_true (by first | (with_reducible assumption) | assumption); obtain ⟨ad144, e144, hx144_0⟩ := Kd.at_int HR0.out 1 p144 q144; obtain rfl : ad135 = ad144 := (by injection e144); (try simp only [show (1 : Int).toNat = 1 from rfl, Nat.reduceMul, Nat.reduceEqDiff, Go.Addr.add, ↓reduceIte] at hx144_0); have qi144 : (1 < l0.length) = True := eq_true (by omega); (try rw [show ((1 : Int)).toNat = 1 from rfl] at hx144_0); replace p144 := eq_true p144; replace q144 := eq_true q144)); try go_wp2_with (first | (go_at_call 76; (with_reducible refine (dec_Norm.calls (rd l0 0) (rd l0 1) t141 t142 _ A8.out).mono ?_); rintro e w' ⟨rfl, ⟨nd, rfl⟩⟩; (try first | exact ⟨rfl, _, World.drewN_drewN _ _ _⟩ | exact ⟨rfl, _, Eq.trans (World.drewN_drewN _ _ _) (congrArg (World.drewN _) (Nat.add_assoc _ _ _))⟩); have p143 : 0 ≤ (0 : Int) := (by omega); have q143 : 0 < (l0.length : Int) := of_decide_eq_true (by first | (with_reducible assumption) | assumption); obtain ⟨ad143, e143, hx143_0⟩ := Kd.at_int HR0.out 0 p143 q143; obtain rfl : ad135 = ad143 := (by injection e143); have qi143 : (0 < l0.length) = True := eq_true (by omega); (try rw [show ((0 : Int)).toNat = 0 from rfl] at hx143_0); (try rw [Addr.add_zero'] at hx143_0); replace p143 := eq_true p143; replace q143 := eq_true q143; have p144 : 0 ≤ (1 : Int) := (by omega); have q144 : 1 < (l0.length : Int) := of_decide_eq_true (by first | (with_reducible assumption) | assumption); obtain ⟨ad144, e144, hx144_0⟩ := Kd.at_int HR0.out 1 p144 q144; obtain rfl : ad135 = ad144 := (by injection e144); (try simp only [show (1 : Int).toNat = 1 from rfl, Nat.reduceMul, Nat.reduceEqDiff, Go.Addr.add, ↓reduceIte] at hx144_0); have qi144 : (1 < l0.length) = True := eq_true (by omega); (try rw [show ((1 : Int)).toNat = 1 from rfl] at hx144_0); replace p144 := eq_true p144; replace q144 := eq_true q144)))
 go_ret
 exact ⟨by first | rfl | (simp; done) | (simp [*]; done), by repeat (first | exact Drawn0.refl _ | apply Drawn0.step)⟩
end Go.Proofs.YtjijikgandkphaaGreatDoor.G
