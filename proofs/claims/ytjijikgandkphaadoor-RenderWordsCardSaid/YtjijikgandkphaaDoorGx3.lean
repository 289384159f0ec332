import Derived.Test.YtjijikgandkphaaDoorGx0
import Derived.Test.YtjijikgandkphaaDoorGx2
namespace Go.Proofs.YtjijikgandkphaaDoor.G
open Go.RowKit Go.Proofs.YtjijikgandkphaaDoorW.PrintWords Go.Proofs.YtjijikgandkphaaDoorW.PrintLast Go.Proofs.YtjijikgandkphaaDoorW.PrintMore Go.Proofs.YtjijikgandkphaaDoorW.VWords Go.Proofs.YtjijikgandkphaaDoorW.Tab
attribute [local go_sem] max2_int min2_int max_two min_two max_three min_three max_four min_four
set_option linter.unusedVariables false
set_option linter.unusedSimpArgs false
def act_decimal.f (l0 : List Int) : Option (Bool) := if 0 < (l0.length : Int) then (if (rd l0 0) ≤ (-1000000000000000000) then (some false) else (if (rd l0 0) ≥ 1000000000000000000 then (some false) else (if 1 < (l0.length : Int) then (if (rd l0 1) < 0 then (some false) else (if (rd l0 1) > 18 then (some false) else ((dec_Norm.f (rd l0 0) (rd l0 1)).bind fun bt116 => (if bt116.1 = (rd l0 0) then (some (bt116.2 == (rd l0 1))) else (some false))))) else (none)))) else (none)
set_option maxHeartbeats 8000000 in
set_option maxRecDepth 100000 in
theorem act_decimal.calls (A0 : Option Addr) (c0 : Nat) (l0 : List Int) (r : Bool) (w : World) (hr0 : Kd.C (Kd.int .i64) w A0 l0.length l0) (hc0 : l0.length ≤ c0) (h : act_decimal.f l0 = some r) :
  Calls Tryd.prog 23 #[.slice A0 l0.length c0] w fun e w' => e = .returned (.bool r) ∧ Drawn0 w w' := by
 have HR0 := Aside0.mk hr0
 have HC0 := Aside0.mk hc0
 clear hr0 hc0
 have H : (if 0 < (l0.length : Int) then (if (rd l0 0) ≤ (-1000000000000000000) then (some false) else (if (rd l0 0) ≥ 1000000000000000000 then (some false) else (if 1 < (l0.length : Int) then (if (rd l0 1) < 0 then (some false) else (if (rd l0 1) > 18 then (some false) else ((dec_Norm.f (rd l0 0) (rd l0 1)).bind fun bt116 => (if bt116.1 = (rd l0 0) then (some (bt116.2 == (rd l0 1))) else (some false))))) else (none)))) else (none)) = some r := h
 clear h
 by_cases c2 : 0 < (l0.length : Int)
 rotate_left
 ·rw [if_neg c2] at H
  exact absurd H (by simp)
 rw [if_pos c2] at H
 have c2b0 : decide (0 < (l0.length : Int)) = true := decide_eq_true c2
 have c2b1 : decide (0 < l0.length) = true := decide_eq_true (by omega)
 clear c2
 by_cases c3 : (rd l0 0) ≤ (-1000000000000000000)
 ·rw [if_pos c3] at H
  have c3b0 : decide ((rd l0 0) ≤ (-1000000000000000000)) = true := decide_eq_true c3
  clear c3
  obtain rfl := Option.some.inj H
  have p110 : 0 ≤ (0 : Int) := (by omega)
  have q110 : 0 < (l0.length : Int) := of_decide_eq_true (by first | (with_reducible assumption) | assumption)
  obtain ⟨ad110, e110, hx110_0⟩ := Kd.at_int HR0.out 0 p110 q110
  cases e110
  have qi110 : (0 < l0.length) = True := eq_true (by omega)
  (try rw [show ((0 : Int)).toNat = 0 from rfl] at hx110_0)
  (try rw [Addr.add_zero'] at hx110_0)
  replace p110 := eq_true p110
  replace q110 := eq_true q110
  go_enter Tryd.func23, Tryd.ntmps23
  go_wp2
  repeat (go_quiet (fail); try go_wp2)
  go_ret
  exact ⟨by first | rfl | (simp; done) | (simp [*]; done), by repeat (first | exact Drawn0.refl _ | apply Drawn0.step)⟩
 rw [if_neg c3] at H
 have c3b0 : decide ((rd l0 0) ≤ (-1000000000000000000)) = false := decide_eq_false c3
 clear c3
 by_cases c4 : (rd l0 0) ≥ 1000000000000000000
 ·rw [if_pos c4] at H
  have c4b0 : decide (1000000000000000000 ≤ (rd l0 0)) = true := decide_eq_true c4
  clear c4
  obtain rfl := Option.some.inj H
  have p110 : 0 ≤ (0 : Int) := (by omega)
  have q110 : 0 < (l0.length : Int) := of_decide_eq_true (by first | (with_reducible assumption) | assumption)
  obtain ⟨ad110, e110, hx110_0⟩ := Kd.at_int HR0.out 0 p110 q110
  cases e110
  have qi110 : (0 < l0.length) = True := eq_true (by omega)
  (try rw [show ((0 : Int)).toNat = 0 from rfl] at hx110_0)
  (try rw [Addr.add_zero'] at hx110_0)
  replace p110 := eq_true p110
  replace q110 := eq_true q110
  have p111 : 0 ≤ (0 : Int) := (by omega)
  have q111 : 0 < (l0.length : Int) := of_decide_eq_true (by first | (with_reducible assumption) | assumption)
  obtain ⟨ad111, e111, hx111_0⟩ := Kd.at_int HR0.out 0 p111 q111
  obtain rfl : ad110 = ad111 := (by injection e111)
  have qi111 : (0 < l0.length) = True := eq_true (by omega)
  (try rw [show ((0 : Int)).toNat = 0 from rfl] at hx111_0)
  (try rw [Addr.add_zero'] at hx111_0)
  replace p111 := eq_true p111
  replace q111 := eq_true q111
  go_enter Tryd.func23, Tryd.ntmps23
  go_wp2
  repeat (go_quiet (fail); try go_wp2)
  go_ret
  exact ⟨by first | rfl | (simp; done) | (simp [*]; done), by repeat (first | exact Drawn0.refl _ | apply Drawn0.step)⟩
 rw [if_neg c4] at H
 have c4b0 : decide (1000000000000000000 ≤ (rd l0 0)) = false := decide_eq_false c4
 clear c4
 by_cases c5 : 1 < (l0.length : Int)
 rotate_left
 ·rw [if_neg c5] at H
  exact absurd H (by simp)
 rw [if_pos c5] at H
 have c5b0 : decide (1 < (l0.length : Int)) = true := decide_eq_true c5
 have c5b1 : decide (1 < l0.length) = true := decide_eq_true (by omega)
 clear c5
 by_cases c6 : (rd l0 1) < 0
 ·rw [if_pos c6] at H
  have c6b0 : decide ((rd l0 1) < 0) = true := decide_eq_true c6
  clear c6
  obtain rfl := Option.some.inj H
  have p110 : 0 ≤ (0 : Int) := (by omega)
  have q110 : 0 < (l0.length : Int) := of_decide_eq_true (by first | (with_reducible assumption) | assumption)
  obtain ⟨ad110, e110, hx110_0⟩ := Kd.at_int HR0.out 0 p110 q110
  cases e110
  have qi110 : (0 < l0.length) = True := eq_true (by omega)
  (try rw [show ((0 : Int)).toNat = 0 from rfl] at hx110_0)
  (try rw [Addr.add_zero'] at hx110_0)
  replace p110 := eq_true p110
  replace q110 := eq_true q110
  have p111 : 0 ≤ (0 : Int) := (by omega)
  have q111 : 0 < (l0.length : Int) := of_decide_eq_true (by first | (with_reducible assumption) | assumption)
  obtain ⟨ad111, e111, hx111_0⟩ := Kd.at_int HR0.out 0 p111 q111
  obtain rfl : ad110 = ad111 := (by injection e111)
  have qi111 : (0 < l0.length) = True := eq_true (by omega)
  (try rw [show ((0 : Int)).toNat = 0 from rfl] at hx111_0)
  (try rw [Addr.add_zero'] at hx111_0)
  replace p111 := eq_true p111
  replace q111 := eq_true q111
  have p112 : 0 ≤ (1 : Int) := (by omega)
  have q112 : 1 < (l0.length : Int) := of_decide_eq_true (by first | (with_reducible assumption) | assumption)
  obtain ⟨ad112, e112, hx112_0⟩ := Kd.at_int HR0.out 1 p112 q112
  obtain rfl : ad110 = ad112 := (by injection e112)
  (try simp only [show (1 : Int).toNat = 1 from rfl, Nat.reduceMul, Nat.reduceEqDiff, Go.Addr.add, ↓reduceIte] at hx112_0)
  have qi112 : (1 < l0.length) = True := eq_true (by omega)
  (try rw [show ((1 : Int)).toNat = 1 from rfl] at hx112_0)
  replace p112 := eq_true p112
  replace q112 := eq_true q112
  go_enter Tryd.func23, Tryd.ntmps23
  go_wp2
  repeat (go_quiet (fail); try go_wp2)
  go_ret
  exact ⟨by first | rfl | (simp; done) | (simp [*]; done), by repeat (first | exact Drawn0.refl _ | apply Drawn0.step)⟩
 rw [if_neg c6] at H
 have c6b0 : decide ((rd l0 1) < 0) = false := decide_eq_false c6
 clear c6
 by_cases c7 : (rd l0 1) > 18
 ·rw [if_pos c7] at H
  have c7b0 : decide (18 < (rd l0 1)) = true := decide_eq_true c7
  clear c7
  obtain rfl := Option.some.inj H
  have p110 : 0 ≤ (0 : Int) := (by omega)
  have q110 : 0 < (l0.length : Int) := of_decide_eq_true (by first | (with_reducible assumption) | assumption)
  obtain ⟨ad110, e110, hx110_0⟩ := Kd.at_int HR0.out 0 p110 q110
  cases e110
  have qi110 : (0 < l0.length) = True := eq_true (by omega)
  (try rw [show ((0 : Int)).toNat = 0 from rfl] at hx110_0)
  (try rw [Addr.add_zero'] at hx110_0)
  replace p110 := eq_true p110
  replace q110 := eq_true q110
  have p111 : 0 ≤ (0 : Int) := (by omega)
  have q111 : 0 < (l0.length : Int) := of_decide_eq_true (by first | (with_reducible assumption) | assumption)
  obtain ⟨ad111, e111, hx111_0⟩ := Kd.at_int HR0.out 0 p111 q111
  obtain rfl : ad110 = ad111 := (by injection e111)
  have qi111 : (0 < l0.length) = True := eq_true (by omega)
  (try rw [show ((0 : Int)).toNat = 0 from rfl] at hx111_0)
  (try rw [Addr.add_zero'] at hx111_0)
  replace p111 := eq_true p111
  replace q111 := eq_true q111
  have p112 : 0 ≤ (1 : Int) := (by omega)
  have q112 : 1 < (l0.length : Int) := of_decide_eq_true (by first | (with_reducible assumption) | assumption)
  obtain ⟨ad112, e112, hx112_0⟩ := Kd.at_int HR0.out 1 p112 q112
  obtain rfl : ad110 = ad112 := (by injection e112)
  (try simp only [show (1 : Int).toNat = 1 from rfl, Nat.reduceMul, Nat.reduceEqDiff, Go.Addr.add, ↓reduceIte] at hx112_0)
  have qi112 : (1 < l0.length) = True := eq_true (by omega)
  (try rw [show ((1 : Int)).toNat = 1 from rfl] at hx112_0)
  replace p112 := eq_true p112
  replace q112 := eq_true q112
  have p113 : 0 ≤ (1 : Int) := (by omega)
  have q113 : 1 < (l0.length : Int) := of_decide_eq_true (by first | (with_reducible assumption) | assumption)
  obtain ⟨ad113, e113, hx113_0⟩ := Kd.at_int HR0.out 1 p113 q113
  obtain rfl : ad110 = ad113 := (by injection e113)
  (try simp only [show (1 : Int).toNat = 1 from rfl, Nat.reduceMul, Nat.reduceEqDiff, Go.Addr.add, ↓reduceIte] at hx113_0)
  have qi113 : (1 < l0.length) = True := eq_true (by omega)
  (try rw [show ((1 : Int)).toNat = 1 from rfl] at hx113_0)
  replace p113 := eq_true p113
  replace q113 := eq_true q113
  go_enter Tryd.func23, Tryd.ntmps23
  go_wp2
  repeat (go_quiet (fail); try go_wp2)
  go_ret
  exact ⟨by first | rfl | (simp; done) | (simp [*]; done), by repeat (first | exact Drawn0.refl _ | apply Drawn0.step)⟩
 rw [if_neg c7] at H
 have c7b0 : decide (18 < (rd l0 1)) = false := decide_eq_false c7
 clear c7
 replace H := Option.bind_eq_some_iff.mp H
 obtain ⟨⟨t116, t117⟩, A80, H⟩ := H
 replace H : (if t116 = (rd l0 0) then (some (t117 == (rd l0 1))) else (some false)) = some r := H
 have A8 := Aside0.mk A80
 clear A80
 by_cases c9 : t116 = (rd l0 0)
 rotate_left
 ·rw [if_neg c9] at H
  have c9b0 : (t116 == (rd l0 0)) = false := beq_eq_false_iff_ne.mpr c9
  have c9b1 : (t116 != (rd l0 0)) = true := bne_iff_ne.mpr c9
  obtain rfl := Option.some.inj H
  have p110 : 0 ≤ (0 : Int) := (by omega)
  have q110 : 0 < (l0.length : Int) := of_decide_eq_true (by first | (with_reducible assumption) | assumption)
  obtain ⟨ad110, e110, hx110_0⟩ := Kd.at_int HR0.out 0 p110 q110
  cases e110
  have qi110 : (0 < l0.length) = True := eq_true (by omega)
  (try rw [show ((0 : Int)).toNat = 0 from rfl] at hx110_0)
  (try rw [Addr.add_zero'] at hx110_0)
  replace p110 := eq_true p110
  replace q110 := eq_true q110
  have p111 : 0 ≤ (0 : Int) := (by omega)
  have q111 : 0 < (l0.length : Int) := of_decide_eq_true (by first | (with_reducible assumption) | assumption)
  obtain ⟨ad111, e111, hx111_0⟩ := Kd.at_int HR0.out 0 p111 q111
  obtain rfl : ad110 = ad111 := (by injection e111)
  have qi111 : (0 < l0.length) = True := eq_true (by omega)
  (try rw [show ((0 : Int)).toNat = 0 from rfl] at hx111_0)
  (try rw [Addr.add_zero'] at hx111_0)
  replace p111 := eq_true p111
  replace q111 := eq_true q111
  have p112 : 0 ≤ (1 : Int) := (by omega)
  have q112 : 1 < (l0.length : Int) := of_decide_eq_true (by first | (with_reducible assumption) | assumption)
  obtain ⟨ad112, e112, hx112_0⟩ := Kd.at_int HR0.out 1 p112 q112
  obtain rfl : ad110 = ad112 := (by injection e112)
  (try simp only [show (1 : Int).toNat = 1 from rfl, Nat.reduceMul, Nat.reduceEqDiff, Go.Addr.add, ↓reduceIte] at hx112_0)
  have qi112 : (1 < l0.length) = True := eq_true (by omega)
  (try rw [show ((1 : Int)).toNat = 1 from rfl] at hx112_0)
  replace p112 := eq_true p112
  replace q112 := eq_true q112
  have p113 : 0 ≤ (1 : Int) := (by omega)
  have q113 : 1 < (l0.length : Int) := of_decide_eq_true (by first | (with_reducible assumption) | assumption)
  obtain ⟨ad113, e113, hx113_0⟩ := Kd.at_int HR0.out 1 p113 q113
  obtain rfl : ad110 = ad113 := (by injection e113)
  (try simp only [show (1 : Int).toNat = 1 from rfl, Nat.reduceMul, Nat.reduceEqDiff, Go.Addr.add, ↓reduceIte] at hx113_0)
  have qi113 : (1 < l0.length) = True := eq_true (by omega)
  (try rw [show ((1 : Int)).toNat = 1 from rfl] at hx113_0)
  replace p113 := eq_true p113
  replace q113 := eq_true q113
  have p114 : 0 ≤ (0 : Int) := (by omega)
  have q114 : 0 < (l0.length : Int) := of_decide_eq_true (by first | (with_reducible assumption) | assumption)
  obtain ⟨ad114, e114, hx114_0⟩ := Kd.at_int HR0.out 0 p114 q114
  obtain rfl : ad110 = ad114 := (by injection e114)
  have qi114 : (0 < l0.length) = True := eq_true (by omega)
  (try rw [show ((0 : Int)).toNat = 0 from rfl] at hx114_0)
  (try rw [Addr.add_zero'] at hx114_0)
  replace p114 := eq_true p114
  replace q114 := eq_true q114
  have p115 : 0 ≤ (1 : Int) := (by omega)
  have q115 : 1 < (l0.length : Int) := of_decide_eq_true (by first | (with_reducible assumption) | assumption)
  obtain ⟨ad115, e115, hx115_0⟩ := Kd.at_int HR0.out 1 p115 q115
  obtain rfl : ad110 = ad115 := (by injection e115)
  (try simp only [show (1 : Int).toNat = 1 from rfl, Nat.reduceMul, Nat.reduceEqDiff, Go.Addr.add, ↓reduceIte] at hx115_0)
  have qi115 : (1 < l0.length) = True := eq_true (by omega)
  (try rw [show ((1 : Int)).toNat = 1 from rfl] at hx115_0)
  replace p115 := eq_true p115
  replace q115 := eq_true q115
  go_enter Tryd.func23, Tryd.ntmps23
  go_wp2_with (first | (go_at_call 37; (with_reducible refine (dec_Norm.calls (rd l0 0) (rd l0 1) t116 t117 _ A8.out).mono ?_); rintro e w' ⟨rfl, ⟨nd, rfl⟩⟩; (try first | exact ⟨rfl, _, World.drewN_drewN _ _ _⟩ | exact ⟨rfl, _, Eq.trans (World.drewN_drewN _ _ _) (congrArg (World.drewN _) (Nat.add_assoc _ _ _))⟩); have p118 : 0 ≤ (0 : Int) := (by omega); have q118 : 0 < (l0.length : Int) := of_decide_eq_true (by first | (with_reducible assumption) | assumption); obtain ⟨ad118, e118, hx118_0⟩ := Kd.at_int HR0.out 0 p118 q118; obtain rfl : ad110 = ad118 := (by injection e118); have qi118 : (0 < l0.length) = True := eq_true (by omega); (try rw [show ((0 : Int)).toNat = 0 from rfl] at hx118_0); (try rw [Addr.add_zero'] at hx118_0); replace p118 := eq_true p118; replace q118 := eq_true q118))
  repeat (go_quiet (first | (go_at_call 37; (with_reducible refine (dec_Norm.calls (rd l0 0) (rd l0 1) t116 t117 _ A8.out).mono ?_); rintro e w' ⟨rfl, ⟨nd, rfl⟩⟩; (try first | exact ⟨rfl, _, World.drewN_drewN _ _ _⟩ | exact ⟨rfl, _, Eq.trans (World.drewN_drewN _ _ _) (congrArg (World.drewN _) (Nat.add_assoc _ _ _))⟩); have p118 : 0 ≤ (0 : Int) := (by omega); have q118 : 0 < (l0.length : Int) := of_decide_eq_true (by first | (with_reducible assumption) | assumption); obtain ⟨ad118, e118, hx118_0⟩ := Kd.at_int HR0.out 0 p118 q118; obtain rfl : ad110 = ad118 := (by injection e118); have qi118 : (0 < l0.length) = True := eq_true (by omega); (try rw [show ((0 : Int)).toNat = 0 from rfl] at hx118_0); (try rw [Addr.add_zero'] at hx118_0); replace p118 := eq_true p118; replace q118 := eq_true q118)); try go_wp2_with (first | (go_at_call 37; (with_reducible refine (dec_Norm.calls (rd l0 0) (rd l0 1) t116 t117 _ A8.out).mono ?_); rintro e w' ⟨rfl, ⟨nd, rfl⟩⟩; (try first | exact ⟨rfl, _, World.drewN_drewN _ _ _⟩ | exact ⟨rfl, _, Eq.trans (World.drewN_drewN _ _ _) (congrArg (World.drewN _) (Nat.add_assoc _ _ _))⟩); have p118 : 0 ≤ (0 : Int) := (by omega); have q118 : 0 < (l0.length : Int) := of_decide_eq_true (by first | (with_reducible assumption) | assumption); obtain ⟨ad118, e118, hx118_0⟩ := Kd.at_int HR0.out 0 p118 q118; obtain rfl : ad110 = ad118 := (by injection e118); have qi118 : (0 < l0.length) = True := eq_true (by omega); (try rw [show ((0 : Int)).toNat = 0 from rfl] at hx118_0); (try rw [Addr.add_zero'] at hx118_0); replace p118 := eq_true p118; replace q118 := eq_true q118)))
  go_ret
  exact ⟨by first | rfl | (simp; done) | (simp [*]; done), by repeat (first | exact Drawn0.refl _ | apply Drawn0.step)⟩
 rw [if_pos c9] at H
 have c9b0 : (t116 == (rd l0 0)) = true := beq_iff_eq.mpr c9
 have c9b1 : (t116 != (rd l0 0)) = false := bne_eq_false_iff_eq.mpr c9
 clear c9
 obtain rfl := Option.some.inj H
 have p110 : 0 ≤ (0 : Int) := (by omega)
 have q110 : 0 < (l0.length : Int) := of_decide_eq_true (by first | (with_reducible assumption) | assumption)
 obtain ⟨ad110, e110, hx110_0⟩ := Kd.at_int HR0.out 0 p110 q110
 cases e110
 have qi110 : (0 < l0.length) = True := eq_true (by omega)
 (try rw [show ((0 : Int)).toNat = 0 from rfl] at hx110_0)
 (try rw [Addr.add_zero'] at hx110_0)
 replace p110 := eq_true p110
 replace q110 := eq_true q110
 have p111 : 0 ≤ (0 : Int) := (by omega)
 have q111 : 0 < (l0.length : Int) := of_decide_eq_true (by first | (with_reducible assumption) | assumption)
 obtain ⟨ad111, e111, hx111_0⟩ := Kd.at_int HR0.out 0 p111 q111
 obtain rfl : ad110 = ad111 := (by injection e111)
 have qi111 : (0 < l0.length) = True := eq_true (by omega)
 (try rw [show ((0 : Int)).toNat = 0 from rfl] at hx111_0)
 (try rw [Addr.add_zero'] at hx111_0)
 replace p111 := eq_true p111
 replace q111 := eq_true q111
 have p112 : 0 ≤ (1 : Int) := (by omega)
 have q112 : 1 < (l0.length : Int) := of_decide_eq_true (by first | (with_reducible assumption) | assumption)
 obtain ⟨ad112, e112, hx112_0⟩ := Kd.at_int HR0.out 1 p112 q112
 obtain rfl : ad110 = ad112 := (by injection e112)
 (try simp only [show (1 : Int).toNat = 1 from rfl, Nat.reduceMul, Nat.reduceEqDiff, Go.Addr.add, ↓reduceIte] at hx112_0)
 have qi112 : (1 < l0.length) = True := eq_true (by omega)
 (try rw [show ((1 : Int)).toNat = 1 from rfl] at hx112_0)
 replace p112 := eq_true p112
 replace q112 := eq_true q112
 have p113 : 0 ≤ (1 : Int) := (by omega)
 have q113 : 1 < (l0.length : Int) := of_decide_eq_true (by first | (with_reducible assumption) | assumption)
 obtain ⟨ad113, e113, hx113_0⟩ := Kd.at_int HR0.out 1 p113 q113
 obtain rfl : ad110 = ad113 := (by injection e113)
 (try simp only [show (1 : Int).toNat = 1 from rfl, Nat.reduceMul, Nat.reduceEqDiff, Go.Addr.add, ↓reduceIte] at hx113_0)
 have qi113 : (1 < l0.length) = True := eq_true (by omega)
 (try rw [show ((1 : Int)).toNat = 1 from rfl] at hx113_0)
 replace p113 := eq_true p113
 replace q113 := eq_true q113
 have p114 : 0 ≤ (0 : Int) := (by omega)
 have q114 : 0 < (l0.length : Int) := of_decide_eq_true (by first | (with_reducible assumption) | assumption)
 obtain ⟨ad114, e114, hx114_0⟩ := Kd.at_int HR0.out 0 p114 q114
 obtain rfl : ad110 = ad114 := (by injection e114)
 have qi114 : (0 < l0.length) = True := eq_true (by omega)
 (try rw [show ((0 : Int)).toNat = 0 from rfl] at hx114_0)
 (try rw [Addr.add_zero'] at hx114_0)
 replace p114 := eq_true p114
 replace q114 := eq_true q114
 have p115 : 0 ≤ (1 : Int) := (by omega)
 have q115 : 1 < (l0.length : Int) := of_decide_eq_true (by first | (with_reducible assumption) | assumption)
 obtain ⟨ad115, e115, hx115_0⟩ := Kd.at_int HR0.out 1 p115 q115
 obtain rfl : ad110 = ad115 := (by injection e115)
 (try simp only [show (1 : Int).toNat = 1 from rfl, Nat.reduceMul, Nat.reduceEqDiff, Go.Addr.add, ↓reduceIte] at hx115_0)
 have qi115 : (1 < l0.length) = True := eq_true (by omega)
 (try rw [show ((1 : Int)).toNat = 1 from rfl] at hx115_0)
 replace p115 := eq_true p115
 replace q115 := eq_true q115
 go_enter Tryd.func23, Tryd.ntmps23
 go_wp2_with (first | (go_at_call 37; (with_reducible refine (dec_Norm.calls (rd l0 0) (rd l0 1) t116 t117 _ A8.out).mono ?_); rintro e w' ⟨rfl, ⟨nd, rfl⟩⟩; (try first | exact ⟨rfl, _, World.drewN_drewN _ _ _⟩ | exact ⟨rfl, _, Eq.trans (World.drewN_drewN _ _ _) (congrArg (World.drewN _) (Nat.add_assoc _ _ _))⟩); have p118 : 0 ≤ (0 : Int) := (by omega); have q118 : 0 < (l0.length : Int) := of_decide_eq_true (by first | (with_reducible assumption) | assumption); obtain ⟨ad118, e118, hx118_0⟩ := Kd.at_int HR0.out 0 p118 q118; obtain rfl : ad110 = ad118 := (by injection e118); have qi118 : (0 < l0.length) = True := eq_true (by omega); (try rw [show ((0 : Int)).toNat = 0 from rfl] at hx118_0); (try rw [Addr.add_zero'] at hx118_0); replace p118 := eq_true p118; replace q118 := eq_true q118; have p119 : 0 ≤ (1 : Int) := (by omega); have q119 : 1 < (l0.length : Int) := of_decide_eq_true (by first | (with_reducible assumption) | assumption); obtain ⟨ad119, e119, hx119_0⟩ := Kd.at_int HR0.out 1 p119 q119; obtain rfl : ad110 = ad119 := (by injection e119); (try simp only [show (1 : Int).toNat = 1 from rfl, Nat.reduceMul, Nat.reduceEqDiff, Go.Addr.add, ↓reduceIte] at hx119_0); have qi119 : (1 < l0.length) = True := eq_true (by omega); (try rw [show ((1 : Int)).toNat = 1 from rfl] at hx119_0); replace p119 := eq_true p119; replace q119 := eq_true q119))
 repeat (go_quiet (first | (go_at_call 37; (with_reducible refine (dec_Norm.calls (rd l0 0) (rd l0 1) t116 t117 _ A8.out).mono ?_); rintro e w' ⟨rfl, ⟨nd, rfl⟩⟩; (try first | exact ⟨rfl, _, World.drewN_drewN _ _ _⟩ | exact ⟨rfl, _, Eq.trans (World.drewN_drewN _ _ _) (congrArg (World.drewN _) (Nat.add_assoc _ _ _))⟩); have p118 : 0 ≤ (0 : Int) := (by omega); have q118 : 0 < (l0.length : Int) := of_decide_eq_true (by first | (with_reducible assumption) | assumption); obtain ⟨ad118, e118, hx118_0⟩ := Kd.at_int HR0.out 0 p118 q118; obtain rfl : ad110 = ad118 := (by injection e118); have qi118 : (0 < l0.length) = True := eq_true (by omega); (try rw [show ((0 : Int)).toNat = 0 from rfl] at hx118_0); (try rw [Addr.add_zero'] at hx118_0); replace p118 := eq_true p118; replace q118 := eq_true q118; have p119 : 0 ≤ (1 : Int) := (by omega); have q119 : 1 < (l0.length : Int) := of_decide_eq_true (by first | (with_reducible assumption) | assumption); obtain ⟨ad119, e119, hx119_0⟩ := Kd.at_int HR0.out 1 p119 q119; obtain rfl : ad110 = ad119 := (by injection e119); (try simp only [show (1 : Int).toNat = 1 from rfl, Nat.reduceMul, Nat.reduceEqDiff, Go.Addr.add, ↓reduceIte] at hx119_0); have qi119 : (1 < l0.length) = True := eq_true (by omega); (try rw [show ((1 : Int)).toNat = 1 from rfl] at hx119_0); replace p119 := eq_true p119; replace q119 := eq_true q119)); try go_wp2_with (first | (go_at_call 37; (with_reducible refine (dec_Norm.calls (rd l0 0) (rd l0 1) t116 t117 _ A8.out).mono ?_); rintro e w' ⟨rfl, ⟨nd, rfl⟩⟩; (try first | exact ⟨rfl, _, World.drewN_drewN _ _ _⟩ | exact ⟨rfl, _, Eq.trans (World.drewN_drewN _ _ _) (congrArg (World.drewN _) (Nat.add_assoc _ _ _))⟩); have p118 : 0 ≤ (0 : Int) := (by omega); have q118 : 0 < (l0.length : Int) := of_decide_eq_true (by first | (with_reducible assumption) | assumption); obtain ⟨ad118, e118, hx118_0⟩ := Kd.at_int HR0.out 0 p118 q118; obtain rfl : ad110 = ad118 := (by injection e118); have qi118 : (0 < l0.length) = True := eq_true (by omega); (try rw [show ((0 : Int)).toNat = 0 from rfl] at hx118_0); (try rw [Addr.add_zero'] at hx118_0); replace p118 := eq_true p118; replace q118 := eq_true q118; have p119 : 0 ≤ (1 : Int) := (by omega); have q119 : 1 < (l0.length : Int) := of_decide_eq_true (by first | (with_reducible assumption) | assumption); obtain ⟨ad119, e119, hx119_0⟩ := Kd.at_int HR0.out 1 p119 q119; obtain rfl : ad110 = ad119 := (by injection e119); (try simp only [show (1 : Int).toNat = 1 from rfl, Nat.reduceMul, Nat.reduceEqDiff, Go.Addr.add, ↓reduceIte] at hx119_0); have qi119 : (1 < l0.length) = True := eq_true (by omega); (try rw [show ((1 : Int)).toNat = 1 from rfl] at hx119_0); replace p119 := eq_true p119; replace q119 := eq_true q119)))
 go_ret
 exact ⟨by first | rfl | (simp; done) | (simp [*]; done), by repeat (first | exact Drawn0.refl _ | apply Drawn0.step)⟩
end Go.Proofs.YtjijikgandkphaaDoor.G
