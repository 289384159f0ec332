import Derived.Test.YtgbnfjhmobeloaaGx0
import Derived.Test.YtgbnfjhmobeloaaGx1
import Derived.Test.YtgbnfjhmobeloaaGx6
import Derived.Test.YtgbnfjhmobeloaaGx13
import Derived.Test.YtgbnfjhmobeloaaGx14
import Derived.Test.YtgbnfjhmobeloaaGx15
import Derived.Test.YtgbnfjhmobeloaaGx26
namespace Go.Proofs.Ytgbnfjhmobeloaa.G
open Go.RowKit Go.Proofs.YtgbnfjhmobeloaaW.PrintWords Go.Proofs.YtgbnfjhmobeloaaW.PrintLast Go.Proofs.YtgbnfjhmobeloaaW.PrintMore Go.Proofs.YtgbnfjhmobeloaaW.VWords
attribute [local go_sem] max2_int min2_int max_two min_two max_three min_three max_four min_four
set_option linter.unusedVariables false
set_option linter.unusedSimpArgs false
attribute [local go_sem high] eqA47
mutual
def interlocutorlaw6_LexPlaces.l0 : Nat → List Int → List (S47) → Int → Option (Bool)
  | 0, _, _, _ => none
  | k + 1, x8, x10, x11 => if x11 < (x10.length : Int) then (if 0 ≤ x11 then (if ((rd_T47 x10 x11).f0) < 0 then (interlocutorlaw6_LexPlaces.j1 k x8 x10 x11 true ((rd_T47 x10 x11).f0) ((rd_T47 x10 x11).f1) ((rd_T47 x10 x11).f2) ((rd_T47 x10 x11).f3) ((rd_T47 x10 x11).f4)) else (if ((rd_T47 x10 x11).f0) ≥ ((rd_T47 x10 x11).f1) then (interlocutorlaw6_LexPlaces.j1 k x8 x10 x11 true ((rd_T47 x10 x11).f0) ((rd_T47 x10 x11).f1) ((rd_T47 x10 x11).f2) ((rd_T47 x10 x11).f3) ((rd_T47 x10 x11).f4)) else (interlocutorlaw6_LexPlaces.j1 k x8 x10 x11 (decide (((rd_T47 x10 x11).f1) > (x8.length : Int))) ((rd_T47 x10 x11).f0) ((rd_T47 x10 x11).f1) ((rd_T47 x10 x11).f2) ((rd_T47 x10 x11).f3) ((rd_T47 x10 x11).f4)))) else (none)) else (some true)
def interlocutorlaw6_LexPlaces.j1 : Nat → List Int → List (S47) → Int → Bool → Int → Int → Int → Int → Int → Option (Bool)
  | 0, _, _, _, _, _, _, _, _, _ => none
  | k + 1, x8, x10, x11, x59, x259000, x259001, x259002, x259003, x259004 => if x59 = true then (some false) else (interlocutorlaw6_LexPlaces.l1 k x8 x10 x11 x259000 x259000 x259001 x259002 x259003 x259004)
def interlocutorlaw6_LexPlaces.j3 : Nat → List Int → List (S47) → Int → Int → Int → Int → Int → Int → Int → Option (Bool)
  | 0, _, _, _, _, _, _, _, _, _ => none
  | k + 1, x8, x10, x11, x13, x259000, x259001, x259002, x259003, x259004 => if x13 = x259001 then (some false) else (if x259002 = 0 then (interlocutorlaw6_LexPlaces.l2 k x8 x10 x11 x13 0 x13 x259000 x259001 x259002 x259003 x259004) else (if x11 > 0 then (if 0 ≤ (wrap64 (x11 - 1)) then (if (wrap64 (x11 - 1)) < (x10.length : Int) then (if ((rd_T47 x10 (wrap64 (x11 - 1))).f0) > x259000 then (some false) else (if (((rd_T47 x10 (wrap64 (x11 - 1))).f0) == x259000 && (((rd_T47 x10 (wrap64 (x11 - 1))).f1) == x259001 && (((rd_T47 x10 (wrap64 (x11 - 1))).f2) == x259002 && (((rd_T47 x10 (wrap64 (x11 - 1))).f3) == x259003 && (((rd_T47 x10 (wrap64 (x11 - 1))).f4) == x259004))))) = true then (some false) else (interlocutorlaw6_LexPlaces.l0 k x8 x10 (wrap64 (x11 + 1))))) else (none)) else (none)) else (interlocutorlaw6_LexPlaces.l0 k x8 x10 (wrap64 (x11 + 1)))))
def interlocutorlaw6_LexPlaces.l2 : Nat → List Int → List (S47) → Int → Int → Int → Int → Int → Int → Int → Int → Int → Option (Bool)
  | 0, _, _, _, _, _, _, _, _, _, _, _ => none
  | k + 1, x8, x10, x11, x13, x14, x15, x259000, x259001, x259002, x259003, x259004 => if x15 < x259001 then (if 0 ≤ x15 then (if x15 < (x8.length : Int) then (if (rd x8 x15) < 48 then (some false) else (if (rd x8 x15) > 57 then (some false) else (interlocutorlaw6_LexPlaces.l2 k x8 x10 x11 x13 (wrap64 ((wrap64 ((wrap64 (10 * x14)) + (rd x8 x15))) - 48)) (wrap64 (x15 + 1)) x259000 x259001 x259002 x259003 x259004))) else (none)) else (none)) else (if x14 = x259003 then (if x259004 = (wrap64 (x259001 - x13)) then (if x259001 < (x8.length : Int) then (if 0 ≤ x259001 then (if (rd x8 x259001) ≥ 48 then (interlocutorlaw6_LexPlaces.j5 k x8 x10 x11 (decide ((rd x8 x259001) ≤ 57)) x259000 x259001 x259002 x259003 x259004) else (interlocutorlaw6_LexPlaces.j5 k x8 x10 x11 false x259000 x259001 x259002 x259003 x259004)) else (none)) else (interlocutorlaw6_LexPlaces.j5 k x8 x10 x11 false x259000 x259001 x259002 x259003 x259004)) else (interlocutorlaw6_LexPlaces.j5 k x8 x10 x11 true x259000 x259001 x259002 x259003 x259004)) else (interlocutorlaw6_LexPlaces.j5 k x8 x10 x11 true x259000 x259001 x259002 x259003 x259004))
def interlocutorlaw6_LexPlaces.j5 : Nat → List Int → List (S47) → Int → Bool → Int → Int → Int → Int → Int → Option (Bool)
  | 0, _, _, _, _, _, _, _, _, _ => none
  | k + 1, x8, x10, x11, x144, x259000, x259001, x259002, x259003, x259004 => if x144 = true then (some false) else (if x11 > 0 then (if 0 ≤ (wrap64 (x11 - 1)) then (if (wrap64 (x11 - 1)) < (x10.length : Int) then (if ((rd_T47 x10 (wrap64 (x11 - 1))).f0) > x259000 then (some false) else (if (((rd_T47 x10 (wrap64 (x11 - 1))).f0) == x259000 && (((rd_T47 x10 (wrap64 (x11 - 1))).f1) == x259001 && (((rd_T47 x10 (wrap64 (x11 - 1))).f2) == x259002 && (((rd_T47 x10 (wrap64 (x11 - 1))).f3) == x259003 && (((rd_T47 x10 (wrap64 (x11 - 1))).f4) == x259004))))) = true then (some false) else (interlocutorlaw6_LexPlaces.l0 k x8 x10 (wrap64 (x11 + 1))))) else (none)) else (none)) else (interlocutorlaw6_LexPlaces.l0 k x8 x10 (wrap64 (x11 + 1))))
def interlocutorlaw6_LexPlaces.l1 : Nat → List Int → List (S47) → Int → Int → Int → Int → Int → Int → Int → Option (Bool)
  | 0, _, _, _, _, _, _, _, _, _ => none
  | k + 1, x8, x10, x11, x13, x259000, x259001, x259002, x259003, x259004 => if x13 < x259001 then (if 0 ≤ x13 then (if x13 < (x8.length : Int) then (if (rd x8 x13) = 32 then (interlocutorlaw6_LexPlaces.l1 k x8 x10 x11 (wrap64 (x13 + 1)) x259000 x259001 x259002 x259003 x259004) else (interlocutorlaw6_LexPlaces.j3 k x8 x10 x11 x13 x259000 x259001 x259002 x259003 x259004)) else (none)) else (none)) else (interlocutorlaw6_LexPlaces.j3 k x8 x10 x11 x13 x259000 x259001 x259002 x259003 x259004)
end
def interlocutorlaw6_LexPlaces.f (k : Nat) (a0_0 : Int) (a0_1 : Int) (a0_2 : Int) (a0_3 : Int) (l0_4 : List (S85)) (a0_5 : Bool) (a1 : Int) (l2 : List Int) : Option (Bool) := (interlocutorlaw6_known.f k).bind fun t232 => (if t232 = true then ((interlocutorlaw5_Shape_Few.f k a0_0 a0_1 a0_2 a0_3 l0_4 a0_5).bind fun t233 => (if t233 = true then ((interlocutorlaw6_Locale.f k a0_0 a0_1 a0_2 a0_3 l0_4 a0_5 a1).bind fun bt234 => ((interlocutorlaw6_Text.f k l2 12).bind fun t247 => ((interlocutorref3_Fold.f k t247).bind fun bt248 => ((lex_Tokens.f bt234.1 bt234.2.1 bt234.2.2.1 bt234.2.2.2.1 bt234.2.2.2.2.1 bt234.2.2.2.2.2 bt248.1).bind fun t254 => (interlocutorlaw6_LexPlaces.l0 k bt248.1 t254 0))))) else (some true))) else (some false))
theorem interlocutorlaw6_LexPlaces.mono_l : ∀ k, (∀ y0 y1 y2, LeO (interlocutorlaw6_LexPlaces.l0 k y0 y1 y2) (interlocutorlaw6_LexPlaces.l0 (k + 1) y0 y1 y2)) ∧ (∀ y0 y1 y2 y3 y4 y5 y6 y7 y8, LeO (interlocutorlaw6_LexPlaces.j1 k y0 y1 y2 y3 y4 y5 y6 y7 y8) (interlocutorlaw6_LexPlaces.j1 (k + 1) y0 y1 y2 y3 y4 y5 y6 y7 y8)) ∧ (∀ y0 y1 y2 y3 y4 y5 y6 y7 y8, LeO (interlocutorlaw6_LexPlaces.j3 k y0 y1 y2 y3 y4 y5 y6 y7 y8) (interlocutorlaw6_LexPlaces.j3 (k + 1) y0 y1 y2 y3 y4 y5 y6 y7 y8)) ∧ (∀ y0 y1 y2 y3 y4 y5 y6 y7 y8 y9 y10, LeO (interlocutorlaw6_LexPlaces.l2 k y0 y1 y2 y3 y4 y5 y6 y7 y8 y9 y10) (interlocutorlaw6_LexPlaces.l2 (k + 1) y0 y1 y2 y3 y4 y5 y6 y7 y8 y9 y10)) ∧ (∀ y0 y1 y2 y3 y4 y5 y6 y7 y8, LeO (interlocutorlaw6_LexPlaces.j5 k y0 y1 y2 y3 y4 y5 y6 y7 y8) (interlocutorlaw6_LexPlaces.j5 (k + 1) y0 y1 y2 y3 y4 y5 y6 y7 y8)) ∧ (∀ y0 y1 y2 y3 y4 y5 y6 y7 y8, LeO (interlocutorlaw6_LexPlaces.l1 k y0 y1 y2 y3 y4 y5 y6 y7 y8) (interlocutorlaw6_LexPlaces.l1 (k + 1) y0 y1 y2 y3 y4 y5 y6 y7 y8))
  | 0 => ⟨fun _ _ _ r h => by simp [interlocutorlaw6_LexPlaces.l0] at h, fun _ _ _ _ _ _ _ _ _ r h => by simp [interlocutorlaw6_LexPlaces.j1] at h, fun _ _ _ _ _ _ _ _ _ r h => by simp [interlocutorlaw6_LexPlaces.j3] at h, fun _ _ _ _ _ _ _ _ _ _ _ r h => by simp [interlocutorlaw6_LexPlaces.l2] at h, fun _ _ _ _ _ _ _ _ _ r h => by simp [interlocutorlaw6_LexPlaces.j5] at h, fun _ _ _ _ _ _ _ _ _ r h => by simp [interlocutorlaw6_LexPlaces.l1] at h⟩
  | k + 1 => by
    obtain ⟨ih0, ih1, ih2, ih3, ih4, ih5⟩ := interlocutorlaw6_LexPlaces.mono_l k
    refine ⟨?_, ?_, ?_, ?_, ?_, ?_⟩
    · intro y0 y1 y2
      unfold interlocutorlaw6_LexPlaces.l0
      repeat' first
      | (with_reducible exact ih0 _ _ _)
      | (with_reducible exact ih1 _ _ _ _ _ _ _ _ _)
      | (with_reducible exact ih2 _ _ _ _ _ _ _ _ _)
      | (with_reducible exact ih3 _ _ _ _ _ _ _ _ _ _ _)
      | (with_reducible exact ih4 _ _ _ _ _ _ _ _ _)
      | (with_reducible exact ih5 _ _ _ _ _ _ _ _ _)
      | (with_reducible exact interlocutorlaw5_Shape_Few.mono _ _ _ _ _ _ _)
      | (with_reducible exact interlocutorlaw6_Locale.mono _ _ _ _ _ _ _ _)
      | (with_reducible exact interlocutorlaw6_Text.mono _ _ _)
      | (with_reducible exact interlocutorlaw6_known.mono _)
      | (with_reducible exact interlocutorref3_Fold.mono _ _)
      | (with_reducible exact LeO.refl _)
      | (with_reducible exact LeO.none _)
      | (with_reducible refine LeO.ite ?_ ?_)
      | (with_reducible refine LeO.bind ?_ (fun _ => ?_))
      | exact ih0 _ _ _
      | exact ih1 _ _ _ _ _ _ _ _ _
      | exact ih2 _ _ _ _ _ _ _ _ _
      | exact ih3 _ _ _ _ _ _ _ _ _ _ _
      | exact ih4 _ _ _ _ _ _ _ _ _
      | exact ih5 _ _ _ _ _ _ _ _ _
      | exact interlocutorlaw5_Shape_Few.mono _ _ _ _ _ _ _
      | exact interlocutorlaw6_Locale.mono _ _ _ _ _ _ _ _
      | exact interlocutorlaw6_Text.mono _ _ _
      | exact interlocutorlaw6_known.mono _
      | exact interlocutorref3_Fold.mono _ _
      | exact LeO.none _
      | refine LeO.ite ?_ ?_
      | refine LeO.bind ?_ (fun _ => ?_)
    · intro y0 y1 y2 y3 y4 y5 y6 y7 y8
      unfold interlocutorlaw6_LexPlaces.j1
      repeat' first
      | (with_reducible exact ih0 _ _ _)
      | (with_reducible exact ih1 _ _ _ _ _ _ _ _ _)
      | (with_reducible exact ih2 _ _ _ _ _ _ _ _ _)
      | (with_reducible exact ih3 _ _ _ _ _ _ _ _ _ _ _)
      | (with_reducible exact ih4 _ _ _ _ _ _ _ _ _)
      | (with_reducible exact ih5 _ _ _ _ _ _ _ _ _)
      | (with_reducible exact interlocutorlaw5_Shape_Few.mono _ _ _ _ _ _ _)
      | (with_reducible exact interlocutorlaw6_Locale.mono _ _ _ _ _ _ _ _)
      | (with_reducible exact interlocutorlaw6_Text.mono _ _ _)
      | (with_reducible exact interlocutorlaw6_known.mono _)
      | (with_reducible exact interlocutorref3_Fold.mono _ _)
      | (with_reducible exact LeO.refl _)
      | (with_reducible exact LeO.none _)
      | (with_reducible refine LeO.ite ?_ ?_)
      | (with_reducible refine LeO.bind ?_ (fun _ => ?_))
      | exact ih0 _ _ _
      | exact ih1 _ _ _ _ _ _ _ _ _
      | exact ih2 _ _ _ _ _ _ _ _ _
      | exact ih3 _ _ _ _ _ _ _ _ _ _ _
      | exact ih4 _ _ _ _ _ _ _ _ _
      | exact ih5 _ _ _ _ _ _ _ _ _
      | exact interlocutorlaw5_Shape_Few.mono _ _ _ _ _ _ _
      | exact interlocutorlaw6_Locale.mono _ _ _ _ _ _ _ _
      | exact interlocutorlaw6_Text.mono _ _ _
      | exact interlocutorlaw6_known.mono _
      | exact interlocutorref3_Fold.mono _ _
      | exact LeO.none _
      | refine LeO.ite ?_ ?_
      | refine LeO.bind ?_ (fun _ => ?_)
    · intro y0 y1 y2 y3 y4 y5 y6 y7 y8
      unfold interlocutorlaw6_LexPlaces.j3
      repeat' first
      | (with_reducible exact ih0 _ _ _)
      | (with_reducible exact ih1 _ _ _ _ _ _ _ _ _)
      | (with_reducible exact ih2 _ _ _ _ _ _ _ _ _)
      | (with_reducible exact ih3 _ _ _ _ _ _ _ _ _ _ _)
      | (with_reducible exact ih4 _ _ _ _ _ _ _ _ _)
      | (with_reducible exact ih5 _ _ _ _ _ _ _ _ _)
      | (with_reducible exact interlocutorlaw5_Shape_Few.mono _ _ _ _ _ _ _)
      | (with_reducible exact interlocutorlaw6_Locale.mono _ _ _ _ _ _ _ _)
      | (with_reducible exact interlocutorlaw6_Text.mono _ _ _)
      | (with_reducible exact interlocutorlaw6_known.mono _)
      | (with_reducible exact interlocutorref3_Fold.mono _ _)
      | (with_reducible exact LeO.refl _)
      | (with_reducible exact LeO.none _)
      | (with_reducible refine LeO.ite ?_ ?_)
      | (with_reducible refine LeO.bind ?_ (fun _ => ?_))
      | exact ih0 _ _ _
      | exact ih1 _ _ _ _ _ _ _ _ _
      | exact ih2 _ _ _ _ _ _ _ _ _
      | exact ih3 _ _ _ _ _ _ _ _ _ _ _
      | exact ih4 _ _ _ _ _ _ _ _ _
      | exact ih5 _ _ _ _ _ _ _ _ _
      | exact interlocutorlaw5_Shape_Few.mono _ _ _ _ _ _ _
      | exact interlocutorlaw6_Locale.mono _ _ _ _ _ _ _ _
      | exact interlocutorlaw6_Text.mono _ _ _
      | exact interlocutorlaw6_known.mono _
      | exact interlocutorref3_Fold.mono _ _
      | exact LeO.none _
      | refine LeO.ite ?_ ?_
      | refine LeO.bind ?_ (fun _ => ?_)
    · intro y0 y1 y2 y3 y4 y5 y6 y7 y8 y9 y10
      unfold interlocutorlaw6_LexPlaces.l2
      repeat' first
      | (with_reducible exact ih0 _ _ _)
      | (with_reducible exact ih1 _ _ _ _ _ _ _ _ _)
      | (with_reducible exact ih2 _ _ _ _ _ _ _ _ _)
      | (with_reducible exact ih3 _ _ _ _ _ _ _ _ _ _ _)
      | (with_reducible exact ih4 _ _ _ _ _ _ _ _ _)
      | (with_reducible exact ih5 _ _ _ _ _ _ _ _ _)
      | (with_reducible exact interlocutorlaw5_Shape_Few.mono _ _ _ _ _ _ _)
      | (with_reducible exact interlocutorlaw6_Locale.mono _ _ _ _ _ _ _ _)
      | (with_reducible exact interlocutorlaw6_Text.mono _ _ _)
      | (with_reducible exact interlocutorlaw6_known.mono _)
      | (with_reducible exact interlocutorref3_Fold.mono _ _)
      | (with_reducible exact LeO.refl _)
      | (with_reducible exact LeO.none _)
      | (with_reducible refine LeO.ite ?_ ?_)
      | (with_reducible refine LeO.bind ?_ (fun _ => ?_))
      | exact ih0 _ _ _
      | exact ih1 _ _ _ _ _ _ _ _ _
      | exact ih2 _ _ _ _ _ _ _ _ _
      | exact ih3 _ _ _ _ _ _ _ _ _ _ _
      | exact ih4 _ _ _ _ _ _ _ _ _
      | exact ih5 _ _ _ _ _ _ _ _ _
      | exact interlocutorlaw5_Shape_Few.mono _ _ _ _ _ _ _
      | exact interlocutorlaw6_Locale.mono _ _ _ _ _ _ _ _
      | exact interlocutorlaw6_Text.mono _ _ _
      | exact interlocutorlaw6_known.mono _
      | exact interlocutorref3_Fold.mono _ _
      | exact LeO.none _
      | refine LeO.ite ?_ ?_
      | refine LeO.bind ?_ (fun _ => ?_)
    · intro y0 y1 y2 y3 y4 y5 y6 y7 y8
      unfold interlocutorlaw6_LexPlaces.j5
      repeat' first
      | (with_reducible exact ih0 _ _ _)
      | (with_reducible exact ih1 _ _ _ _ _ _ _ _ _)
      | (with_reducible exact ih2 _ _ _ _ _ _ _ _ _)
      | (with_reducible exact ih3 _ _ _ _ _ _ _ _ _ _ _)
      | (with_reducible exact ih4 _ _ _ _ _ _ _ _ _)
      | (with_reducible exact ih5 _ _ _ _ _ _ _ _ _)
      | (with_reducible exact interlocutorlaw5_Shape_Few.mono _ _ _ _ _ _ _)
      | (with_reducible exact interlocutorlaw6_Locale.mono _ _ _ _ _ _ _ _)
      | (with_reducible exact interlocutorlaw6_Text.mono _ _ _)
      | (with_reducible exact interlocutorlaw6_known.mono _)
      | (with_reducible exact interlocutorref3_Fold.mono _ _)
      | (with_reducible exact LeO.refl _)
      | (with_reducible exact LeO.none _)
      | (with_reducible refine LeO.ite ?_ ?_)
      | (with_reducible refine LeO.bind ?_ (fun _ => ?_))
      | exact ih0 _ _ _
      | exact ih1 _ _ _ _ _ _ _ _ _
      | exact ih2 _ _ _ _ _ _ _ _ _
      | exact ih3 _ _ _ _ _ _ _ _ _ _ _
      | exact ih4 _ _ _ _ _ _ _ _ _
      | exact ih5 _ _ _ _ _ _ _ _ _
      | exact interlocutorlaw5_Shape_Few.mono _ _ _ _ _ _ _
      | exact interlocutorlaw6_Locale.mono _ _ _ _ _ _ _ _
      | exact interlocutorlaw6_Text.mono _ _ _
      | exact interlocutorlaw6_known.mono _
      | exact interlocutorref3_Fold.mono _ _
      | exact LeO.none _
      | refine LeO.ite ?_ ?_
      | refine LeO.bind ?_ (fun _ => ?_)
    · intro y0 y1 y2 y3 y4 y5 y6 y7 y8
      unfold interlocutorlaw6_LexPlaces.l1
      repeat' first
      | (with_reducible exact ih0 _ _ _)
      | (with_reducible exact ih1 _ _ _ _ _ _ _ _ _)
      | (with_reducible exact ih2 _ _ _ _ _ _ _ _ _)
      | (with_reducible exact ih3 _ _ _ _ _ _ _ _ _ _ _)
      | (with_reducible exact ih4 _ _ _ _ _ _ _ _ _)
      | (with_reducible exact ih5 _ _ _ _ _ _ _ _ _)
      | (with_reducible exact interlocutorlaw5_Shape_Few.mono _ _ _ _ _ _ _)
      | (with_reducible exact interlocutorlaw6_Locale.mono _ _ _ _ _ _ _ _)
      | (with_reducible exact interlocutorlaw6_Text.mono _ _ _)
      | (with_reducible exact interlocutorlaw6_known.mono _)
      | (with_reducible exact interlocutorref3_Fold.mono _ _)
      | (with_reducible exact LeO.refl _)
      | (with_reducible exact LeO.none _)
      | (with_reducible refine LeO.ite ?_ ?_)
      | (with_reducible refine LeO.bind ?_ (fun _ => ?_))
      | exact ih0 _ _ _
      | exact ih1 _ _ _ _ _ _ _ _ _
      | exact ih2 _ _ _ _ _ _ _ _ _
      | exact ih3 _ _ _ _ _ _ _ _ _ _ _
      | exact ih4 _ _ _ _ _ _ _ _ _
      | exact ih5 _ _ _ _ _ _ _ _ _
      | exact interlocutorlaw5_Shape_Few.mono _ _ _ _ _ _ _
      | exact interlocutorlaw6_Locale.mono _ _ _ _ _ _ _ _
      | exact interlocutorlaw6_Text.mono _ _ _
      | exact interlocutorlaw6_known.mono _
      | exact interlocutorref3_Fold.mono _ _
      | exact LeO.none _
      | refine LeO.ite ?_ ?_
      | refine LeO.bind ?_ (fun _ => ?_)
set_option maxHeartbeats 8000000 in
set_option maxRecDepth 100000 in
theorem interlocutorlaw6_LexPlaces.calls (k : Nat) (a0_0 : Int) (a0_1 : Int) (a0_2 : Int) (a0_3 : Int) (A0_4 : Option Addr) (c0_4 : Nat) (l0_4 : List (S85)) (a0_5 : Bool) (a1 : Int) (A2 : Option Addr) (c2 : Nat) (l2 : List Int) (r : Bool) (w : World) (hr0_4 : Kd.C k85 w A0_4 l0_4.length l0_4) (hc0_4 : l0_4.length ≤ c0_4) (hr2 : Kd.C (Kd.int .i64) w A2 l2.length l2) (hc2 : l2.length ≤ c2) (h : interlocutorlaw6_LexPlaces.f k a0_0 a0_1 a0_2 a0_3 l0_4 a0_5 a1 l2 = some r) :
    Calls Try.prog 4 #[.agg #[.int .i64 a0_0, .int .i64 a0_1, .int .i64 a0_2, .int .i64 a0_3, .slice A0_4 l0_4.length c0_4, .bool a0_5], .int .i64 a1, .slice A2 l2.length c2] w fun e w' => e = .returned (.bool r) ∧ Below w.heap.size w w' := by
  have hu24 := Try.underlying24
  have hu32 := Try.underlying32
  have hu47 := Try.underlying47
  have HR0_4 := Aside0.mk hr0_4
  have HC0_4 := Aside0.mk hc0_4
  clear hr0_4 hc0_4
  have HR2 := Aside0.mk hr2
  have HC2 := Aside0.mk hc2
  clear hr2 hc2
  have HB := Aside0.mk (Below.refl w.heap.size w)
  have H : ((interlocutorlaw6_known.f k).bind fun t232 => (if t232 = true then ((interlocutorlaw5_Shape_Few.f k a0_0 a0_1 a0_2 a0_3 l0_4 a0_5).bind fun t233 => (if t233 = true then ((interlocutorlaw6_Locale.f k a0_0 a0_1 a0_2 a0_3 l0_4 a0_5 a1).bind fun bt234 => ((interlocutorlaw6_Text.f k l2 12).bind fun t247 => ((interlocutorref3_Fold.f k t247).bind fun bt248 => ((lex_Tokens.f bt234.1 bt234.2.1 bt234.2.2.1 bt234.2.2.2.1 bt234.2.2.2.2.1 bt234.2.2.2.2.2 bt248.1).bind fun t254 => (interlocutorlaw6_LexPlaces.l0 k bt248.1 t254 0))))) else (some true))) else (some false))) = some r := h
  clear h
  replace H := Option.bind_eq_some_iff.mp H
  obtain ⟨t232, A40, H⟩ := H
  replace H : (if t232 = true then ((interlocutorlaw5_Shape_Few.f k a0_0 a0_1 a0_2 a0_3 l0_4 a0_5).bind fun t233 => (if t233 = true then ((interlocutorlaw6_Locale.f k a0_0 a0_1 a0_2 a0_3 l0_4 a0_5 a1).bind fun bt234 => ((interlocutorlaw6_Text.f k l2 12).bind fun t247 => ((interlocutorref3_Fold.f k t247).bind fun bt248 => ((lex_Tokens.f bt234.1 bt234.2.1 bt234.2.2.1 bt234.2.2.2.1 bt234.2.2.2.2.1 bt234.2.2.2.2.2 bt248.1).bind fun t254 => (interlocutorlaw6_LexPlaces.l0 k bt248.1 t254 0))))) else (some true))) else (some false)) = some r := H
  have A4 := Aside0.mk A40
  clear A40
  by_cases c5 : t232 = true
  rotate_left
  · replace c5 := Bool.eq_false_iff.mpr c5
    subst c5
    have H1 : (some false) = some r := by rw [if_neg (show ¬ (false = true) by decide)] at H; exact H
    clear H
    have H := H1
    clear H1
    obtain rfl := Option.some.inj H
    go_enter Try.func4, Try.ntmps4
    go_wp2_with (first | ((with_reducible refine gate_dst (N := 3) rfl ?_); (try (refine gate_guard (by rfl) ?_; dsimp only)); refine box_event ?hg (N := 3) ?hd (cs := #[.int .i64 a0_0, .int .i64 a0_1, .int .i64 a0_2, .int .i64 a0_3, .slice A0_4 l0_4.length c0_4, .bool a0_5]) (t := 24) ?hr ?_; (case hd => rfl); (case hg => rfl); (case hr => first | (go_simp; done) | (go_simp; rfl)); intro gb231 hg w151 hbox hb; have n0_ := Aside0.mk (below_step (by exact wU HB.out) hb); have n1_ := Aside0.mk (hbox); have n2_ := Aside0.mk ((by rw [hg]; exact (below_size (by exact wU HB.out)) : w.heap.size ≤ gb231)); have n3_ := Aside0.mk ((by rw [hg]; exact (below_size (by exact wU HB.out)) : w.heap.size ≤ gb231)); clear HB; have HB := n0_; have BK231 := n1_; have GW231 := n2_; have GE231 := n3_; clear n0_ n1_ n2_ n3_; clear hb hbox hg) | (go_at_call 14; (with_reducible refine (interlocutorlaw6_known.calls k  false _ A4.out).mono ?_); rintro e w152 ⟨rfl, hb⟩; have n0_ := Aside0.mk (blk_below (g := gb231) (o := .cells #[.int .i64 a0_0, .int .i64 a0_1, .int .i64 a0_2, .int .i64 a0_3, .slice A0_4 l0_4.length c0_4, .bool a0_5] 24 (0, 0)) (by (with_reducible repeat (first | refine blk_drewN ?_ _ | refine blk_drew ?_ | refine blk_alloc ?_ _)); exact BK231.out) hb); have n1_ := Aside0.mk (below_step (by exact wS HB.out GE231.out) hb); clear BK231; clear HB; have BK231 := n0_; have HB := n1_; clear n0_ n1_; (try clear hb); (try clear hb2); (try clear hk); (try clear hi)))
    repeat (go_quiet (first | ((with_reducible refine gate_dst (N := 3) rfl ?_); (try (refine gate_guard (by rfl) ?_; dsimp only)); refine box_event ?hg (N := 3) ?hd (cs := #[.int .i64 a0_0, .int .i64 a0_1, .int .i64 a0_2, .int .i64 a0_3, .slice A0_4 l0_4.length c0_4, .bool a0_5]) (t := 24) ?hr ?_; (case hd => rfl); (case hg => rfl); (case hr => first | (go_simp; done) | (go_simp; rfl)); intro gb231 hg w151 hbox hb; have n0_ := Aside0.mk (below_step (by exact wU HB.out) hb); have n1_ := Aside0.mk (hbox); have n2_ := Aside0.mk ((by rw [hg]; exact (below_size (by exact wU HB.out)) : w.heap.size ≤ gb231)); have n3_ := Aside0.mk ((by rw [hg]; exact (below_size (by exact wU HB.out)) : w.heap.size ≤ gb231)); clear HB; have HB := n0_; have BK231 := n1_; have GW231 := n2_; have GE231 := n3_; clear n0_ n1_ n2_ n3_; clear hb hbox hg) | (go_at_call 14; (with_reducible refine (interlocutorlaw6_known.calls k  false _ A4.out).mono ?_); rintro e w152 ⟨rfl, hb⟩; have n0_ := Aside0.mk (blk_below (g := gb231) (o := .cells #[.int .i64 a0_0, .int .i64 a0_1, .int .i64 a0_2, .int .i64 a0_3, .slice A0_4 l0_4.length c0_4, .bool a0_5] 24 (0, 0)) (by (with_reducible repeat (first | refine blk_drewN ?_ _ | refine blk_drew ?_ | refine blk_alloc ?_ _)); exact BK231.out) hb); have n1_ := Aside0.mk (below_step (by exact wS HB.out GE231.out) hb); clear BK231; clear HB; have BK231 := n0_; have HB := n1_; clear n0_ n1_; (try clear hb); (try clear hb2); (try clear hk); (try clear hi))); try go_wp2_with (first | ((with_reducible refine gate_dst (N := 3) rfl ?_); (try (refine gate_guard (by rfl) ?_; dsimp only)); refine box_event ?hg (N := 3) ?hd (cs := #[.int .i64 a0_0, .int .i64 a0_1, .int .i64 a0_2, .int .i64 a0_3, .slice A0_4 l0_4.length c0_4, .bool a0_5]) (t := 24) ?hr ?_; (case hd => rfl); (case hg => rfl); (case hr => first | (go_simp; done) | (go_simp; rfl)); intro gb231 hg w151 hbox hb; have n0_ := Aside0.mk (below_step (by exact wU HB.out) hb); have n1_ := Aside0.mk (hbox); have n2_ := Aside0.mk ((by rw [hg]; exact (below_size (by exact wU HB.out)) : w.heap.size ≤ gb231)); have n3_ := Aside0.mk ((by rw [hg]; exact (below_size (by exact wU HB.out)) : w.heap.size ≤ gb231)); clear HB; have HB := n0_; have BK231 := n1_; have GW231 := n2_; have GE231 := n3_; clear n0_ n1_ n2_ n3_; clear hb hbox hg) | (go_at_call 14; (with_reducible refine (interlocutorlaw6_known.calls k  false _ A4.out).mono ?_); rintro e w152 ⟨rfl, hb⟩; have n0_ := Aside0.mk (blk_below (g := gb231) (o := .cells #[.int .i64 a0_0, .int .i64 a0_1, .int .i64 a0_2, .int .i64 a0_3, .slice A0_4 l0_4.length c0_4, .bool a0_5] 24 (0, 0)) (by (with_reducible repeat (first | refine blk_drewN ?_ _ | refine blk_drew ?_ | refine blk_alloc ?_ _)); exact BK231.out) hb); have n1_ := Aside0.mk (below_step (by exact wS HB.out GE231.out) hb); clear BK231; clear HB; have BK231 := n0_; have HB := n1_; clear n0_ n1_; (try clear hb); (try clear hb2); (try clear hk); (try clear hi))))
    go_ret
    exact ⟨by first | rfl | (simp [errW_none, errW_some] <;> rfl) | (simp [*, errW_none, errW_some] <;> rfl), by exact wS HB.out GE231.out⟩
  subst c5
  have H1 : ((interlocutorlaw5_Shape_Few.f k a0_0 a0_1 a0_2 a0_3 l0_4 a0_5).bind fun t233 => (if t233 = true then ((interlocutorlaw6_Locale.f k a0_0 a0_1 a0_2 a0_3 l0_4 a0_5 a1).bind fun bt234 => ((interlocutorlaw6_Text.f k l2 12).bind fun t247 => ((interlocutorref3_Fold.f k t247).bind fun bt248 => ((lex_Tokens.f bt234.1 bt234.2.1 bt234.2.2.1 bt234.2.2.2.1 bt234.2.2.2.2.1 bt234.2.2.2.2.2 bt248.1).bind fun t254 => (interlocutorlaw6_LexPlaces.l0 k bt248.1 t254 0))))) else (some true))) = some r := by rw [if_pos rfl] at H; exact H
  clear H
  have H := H1
  clear H1
  replace H := Option.bind_eq_some_iff.mp H
  obtain ⟨t233, A60, H⟩ := H
  replace H : (if t233 = true then ((interlocutorlaw6_Locale.f k a0_0 a0_1 a0_2 a0_3 l0_4 a0_5 a1).bind fun bt234 => ((interlocutorlaw6_Text.f k l2 12).bind fun t247 => ((interlocutorref3_Fold.f k t247).bind fun bt248 => ((lex_Tokens.f bt234.1 bt234.2.1 bt234.2.2.1 bt234.2.2.2.1 bt234.2.2.2.2.1 bt234.2.2.2.2.2 bt248.1).bind fun t254 => (interlocutorlaw6_LexPlaces.l0 k bt248.1 t254 0))))) else (some true)) = some r := H
  have A6 := Aside0.mk A60
  clear A60
  by_cases c7 : t233 = true
  rotate_left
  · replace c7 := Bool.eq_false_iff.mpr c7
    subst c7
    have H1 : (some true) = some r := by rw [if_neg (show ¬ (false = true) by decide)] at H; exact H
    clear H
    have H := H1
    clear H1
    obtain rfl := Option.some.inj H
    go_enter Try.func4, Try.ntmps4
    go_wp2_with (first | ((with_reducible refine gate_dst (N := 3) rfl ?_); (try (refine gate_guard (by rfl) ?_; dsimp only)); refine box_event ?hg (N := 3) ?hd (cs := #[.int .i64 a0_0, .int .i64 a0_1, .int .i64 a0_2, .int .i64 a0_3, .slice A0_4 l0_4.length c0_4, .bool a0_5]) (t := 24) ?hr ?_; (case hd => rfl); (case hg => rfl); (case hr => first | (go_simp; done) | (go_simp; rfl)); intro gb231 hg w147 hbox hb; have n0_ := Aside0.mk (below_step (by exact wU HB.out) hb); have n1_ := Aside0.mk (hbox); have n2_ := Aside0.mk ((by rw [hg]; exact (below_size (by exact wU HB.out)) : w.heap.size ≤ gb231)); have n3_ := Aside0.mk ((by rw [hg]; exact (below_size (by exact wU HB.out)) : w.heap.size ≤ gb231)); clear HB; have HB := n0_; have BK231 := n1_; have GW231 := n2_; have GE231 := n3_; clear n0_ n1_ n2_ n3_; clear hb hbox hg) | (go_at_call 14; (with_reducible refine (interlocutorlaw6_known.calls k  true _ A4.out).mono ?_); rintro e w148 ⟨rfl, hb⟩; have n0_ := Aside0.mk (blk_below (g := gb231) (o := .cells #[.int .i64 a0_0, .int .i64 a0_1, .int .i64 a0_2, .int .i64 a0_3, .slice A0_4 l0_4.length c0_4, .bool a0_5] 24 (0, 0)) (by (with_reducible repeat (first | refine blk_drewN ?_ _ | refine blk_drew ?_ | refine blk_alloc ?_ _)); exact BK231.out) hb); have n1_ := Aside0.mk (below_step (by exact wS HB.out GE231.out) hb); clear BK231; clear HB; have BK231 := n0_; have HB := n1_; clear n0_ n1_; (try clear hb); (try clear hb2); (try clear hk); (try clear hi); have hcz149_0 : w148.cell? ⟨gb231, 0, none⟩ = some (.int .i64 a0_0) := (blk_cell BK231.out 0).trans rfl; have hcz149_1 : w148.cell? ⟨gb231, 1, none⟩ = some (.int .i64 a0_1) := (blk_cell BK231.out 1).trans rfl; have hcz149_2 : w148.cell? ⟨gb231, 2, none⟩ = some (.int .i64 a0_2) := (blk_cell BK231.out 2).trans rfl; have hcz149_3 : w148.cell? ⟨gb231, 3, none⟩ = some (.int .i64 a0_3) := (blk_cell BK231.out 3).trans rfl; have hcz149_4 : w148.cell? ⟨gb231, 4, none⟩ = some (.slice A0_4 l0_4.length c0_4) := (blk_cell BK231.out 4).trans rfl; have hcz149_5 : w148.cell? ⟨gb231, 5, none⟩ = some (.bool a0_5) := (blk_cell BK231.out 5).trans rfl; have hfz149_0 := blk_frozen BK231.out 0; have hfz149_1 := blk_frozen BK231.out 1; have hfz149_2 := blk_frozen BK231.out 2; have hfz149_3 := blk_frozen BK231.out 3; have hfz149_4 := blk_frozen BK231.out 4; have hfz149_5 := blk_frozen BK231.out 5) | (go_at_call 15; (with_reducible refine (interlocutorlaw5_Shape_Few.calls k a0_0 a0_1 a0_2 a0_3 _ _ l0_4 a0_5 false _ ?side1 ?side2 A6.out).mono ?_); (case side1 => repeat (first | exact (Kd.C_below HR0_4.out HB.out) | (with_reducible refine Kd.C_alloc ?_ _) | (with_reducible refine Kd.C_drewN ?_ _) | (with_reducible refine Kd.C_drew ?_))); (case side2 => exact HC0_4.out); rintro e w150 ⟨rfl, hb⟩; have n0_ := Aside0.mk (blk_below (g := gb231) (o := .cells #[.int .i64 a0_0, .int .i64 a0_1, .int .i64 a0_2, .int .i64 a0_3, .slice A0_4 l0_4.length c0_4, .bool a0_5] 24 (0, 0)) (by (with_reducible repeat (first | refine blk_drewN ?_ _ | refine blk_drew ?_ | refine blk_alloc ?_ _)); exact BK231.out) hb); have n1_ := Aside0.mk (below_step (by exact wS HB.out GE231.out) hb); clear BK231; clear HB; have BK231 := n0_; have HB := n1_; clear n0_ n1_; (try clear hb); (try clear hb2); (try clear hk); (try clear hi)))
    repeat (go_quiet (first | ((with_reducible refine gate_dst (N := 3) rfl ?_); (try (refine gate_guard (by rfl) ?_; dsimp only)); refine box_event ?hg (N := 3) ?hd (cs := #[.int .i64 a0_0, .int .i64 a0_1, .int .i64 a0_2, .int .i64 a0_3, .slice A0_4 l0_4.length c0_4, .bool a0_5]) (t := 24) ?hr ?_; (case hd => rfl); (case hg => rfl); (case hr => first | (go_simp; done) | (go_simp; rfl)); intro gb231 hg w147 hbox hb; have n0_ := Aside0.mk (below_step (by exact wU HB.out) hb); have n1_ := Aside0.mk (hbox); have n2_ := Aside0.mk ((by rw [hg]; exact (below_size (by exact wU HB.out)) : w.heap.size ≤ gb231)); have n3_ := Aside0.mk ((by rw [hg]; exact (below_size (by exact wU HB.out)) : w.heap.size ≤ gb231)); clear HB; have HB := n0_; have BK231 := n1_; have GW231 := n2_; have GE231 := n3_; clear n0_ n1_ n2_ n3_; clear hb hbox hg) | (go_at_call 14; (with_reducible refine (interlocutorlaw6_known.calls k  true _ A4.out).mono ?_); rintro e w148 ⟨rfl, hb⟩; have n0_ := Aside0.mk (blk_below (g := gb231) (o := .cells #[.int .i64 a0_0, .int .i64 a0_1, .int .i64 a0_2, .int .i64 a0_3, .slice A0_4 l0_4.length c0_4, .bool a0_5] 24 (0, 0)) (by (with_reducible repeat (first | refine blk_drewN ?_ _ | refine blk_drew ?_ | refine blk_alloc ?_ _)); exact BK231.out) hb); have n1_ := Aside0.mk (below_step (by exact wS HB.out GE231.out) hb); clear BK231; clear HB; have BK231 := n0_; have HB := n1_; clear n0_ n1_; (try clear hb); (try clear hb2); (try clear hk); (try clear hi); have hcz149_0 : w148.cell? ⟨gb231, 0, none⟩ = some (.int .i64 a0_0) := (blk_cell BK231.out 0).trans rfl; have hcz149_1 : w148.cell? ⟨gb231, 1, none⟩ = some (.int .i64 a0_1) := (blk_cell BK231.out 1).trans rfl; have hcz149_2 : w148.cell? ⟨gb231, 2, none⟩ = some (.int .i64 a0_2) := (blk_cell BK231.out 2).trans rfl; have hcz149_3 : w148.cell? ⟨gb231, 3, none⟩ = some (.int .i64 a0_3) := (blk_cell BK231.out 3).trans rfl; have hcz149_4 : w148.cell? ⟨gb231, 4, none⟩ = some (.slice A0_4 l0_4.length c0_4) := (blk_cell BK231.out 4).trans rfl; have hcz149_5 : w148.cell? ⟨gb231, 5, none⟩ = some (.bool a0_5) := (blk_cell BK231.out 5).trans rfl; have hfz149_0 := blk_frozen BK231.out 0; have hfz149_1 := blk_frozen BK231.out 1; have hfz149_2 := blk_frozen BK231.out 2; have hfz149_3 := blk_frozen BK231.out 3; have hfz149_4 := blk_frozen BK231.out 4; have hfz149_5 := blk_frozen BK231.out 5) | (go_at_call 15; (with_reducible refine (interlocutorlaw5_Shape_Few.calls k a0_0 a0_1 a0_2 a0_3 _ _ l0_4 a0_5 false _ ?side1 ?side2 A6.out).mono ?_); (case side1 => repeat (first | exact (Kd.C_below HR0_4.out HB.out) | (with_reducible refine Kd.C_alloc ?_ _) | (with_reducible refine Kd.C_drewN ?_ _) | (with_reducible refine Kd.C_drew ?_))); (case side2 => exact HC0_4.out); rintro e w150 ⟨rfl, hb⟩; have n0_ := Aside0.mk (blk_below (g := gb231) (o := .cells #[.int .i64 a0_0, .int .i64 a0_1, .int .i64 a0_2, .int .i64 a0_3, .slice A0_4 l0_4.length c0_4, .bool a0_5] 24 (0, 0)) (by (with_reducible repeat (first | refine blk_drewN ?_ _ | refine blk_drew ?_ | refine blk_alloc ?_ _)); exact BK231.out) hb); have n1_ := Aside0.mk (below_step (by exact wS HB.out GE231.out) hb); clear BK231; clear HB; have BK231 := n0_; have HB := n1_; clear n0_ n1_; (try clear hb); (try clear hb2); (try clear hk); (try clear hi))); try go_wp2_with (first | ((with_reducible refine gate_dst (N := 3) rfl ?_); (try (refine gate_guard (by rfl) ?_; dsimp only)); refine box_event ?hg (N := 3) ?hd (cs := #[.int .i64 a0_0, .int .i64 a0_1, .int .i64 a0_2, .int .i64 a0_3, .slice A0_4 l0_4.length c0_4, .bool a0_5]) (t := 24) ?hr ?_; (case hd => rfl); (case hg => rfl); (case hr => first | (go_simp; done) | (go_simp; rfl)); intro gb231 hg w147 hbox hb; have n0_ := Aside0.mk (below_step (by exact wU HB.out) hb); have n1_ := Aside0.mk (hbox); have n2_ := Aside0.mk ((by rw [hg]; exact (below_size (by exact wU HB.out)) : w.heap.size ≤ gb231)); have n3_ := Aside0.mk ((by rw [hg]; exact (below_size (by exact wU HB.out)) : w.heap.size ≤ gb231)); clear HB; have HB := n0_; have BK231 := n1_; have GW231 := n2_; have GE231 := n3_; clear n0_ n1_ n2_ n3_; clear hb hbox hg) | (go_at_call 14; (with_reducible refine (interlocutorlaw6_known.calls k  true _ A4.out).mono ?_); rintro e w148 ⟨rfl, hb⟩; have n0_ := Aside0.mk (blk_below (g := gb231) (o := .cells #[.int .i64 a0_0, .int .i64 a0_1, .int .i64 a0_2, .int .i64 a0_3, .slice A0_4 l0_4.length c0_4, .bool a0_5] 24 (0, 0)) (by (with_reducible repeat (first | refine blk_drewN ?_ _ | refine blk_drew ?_ | refine blk_alloc ?_ _)); exact BK231.out) hb); have n1_ := Aside0.mk (below_step (by exact wS HB.out GE231.out) hb); clear BK231; clear HB; have BK231 := n0_; have HB := n1_; clear n0_ n1_; (try clear hb); (try clear hb2); (try clear hk); (try clear hi); have hcz149_0 : w148.cell? ⟨gb231, 0, none⟩ = some (.int .i64 a0_0) := (blk_cell BK231.out 0).trans rfl; have hcz149_1 : w148.cell? ⟨gb231, 1, none⟩ = some (.int .i64 a0_1) := (blk_cell BK231.out 1).trans rfl; have hcz149_2 : w148.cell? ⟨gb231, 2, none⟩ = some (.int .i64 a0_2) := (blk_cell BK231.out 2).trans rfl; have hcz149_3 : w148.cell? ⟨gb231, 3, none⟩ = some (.int .i64 a0_3) := (blk_cell BK231.out 3).trans rfl; have hcz149_4 : w148.cell? ⟨gb231, 4, none⟩ = some (.slice A0_4 l0_4.length c0_4) := (blk_cell BK231.out 4).trans rfl; have hcz149_5 : w148.cell? ⟨gb231, 5, none⟩ = some (.bool a0_5) := (blk_cell BK231.out 5).trans rfl; have hfz149_0 := blk_frozen BK231.out 0; have hfz149_1 := blk_frozen BK231.out 1; have hfz149_2 := blk_frozen BK231.out 2; have hfz149_3 := blk_frozen BK231.out 3; have hfz149_4 := blk_frozen BK231.out 4; have hfz149_5 := blk_frozen BK231.out 5) | (go_at_call 15; (with_reducible refine (interlocutorlaw5_Shape_Few.calls k a0_0 a0_1 a0_2 a0_3 _ _ l0_4 a0_5 false _ ?side1 ?side2 A6.out).mono ?_); (case side1 => repeat (first | exact (Kd.C_below HR0_4.out HB.out) | (with_reducible refine Kd.C_alloc ?_ _) | (with_reducible refine Kd.C_drewN ?_ _) | (with_reducible refine Kd.C_drew ?_))); (case side2 => exact HC0_4.out); rintro e w150 ⟨rfl, hb⟩; have n0_ := Aside0.mk (blk_below (g := gb231) (o := .cells #[.int .i64 a0_0, .int .i64 a0_1, .int .i64 a0_2, .int .i64 a0_3, .slice A0_4 l0_4.length c0_4, .bool a0_5] 24 (0, 0)) (by (with_reducible repeat (first | refine blk_drewN ?_ _ | refine blk_drew ?_ | refine blk_alloc ?_ _)); exact BK231.out) hb); have n1_ := Aside0.mk (below_step (by exact wS HB.out GE231.out) hb); clear BK231; clear HB; have BK231 := n0_; have HB := n1_; clear n0_ n1_; (try clear hb); (try clear hb2); (try clear hk); (try clear hi))))
    go_ret
    exact ⟨by first | rfl | (simp [errW_none, errW_some] <;> rfl) | (simp [*, errW_none, errW_some] <;> rfl), by exact wS HB.out GE231.out⟩
  subst c7
  have H1 : ((interlocutorlaw6_Locale.f k a0_0 a0_1 a0_2 a0_3 l0_4 a0_5 a1).bind fun bt234 => ((interlocutorlaw6_Text.f k l2 12).bind fun t247 => ((interlocutorref3_Fold.f k t247).bind fun bt248 => ((lex_Tokens.f bt234.1 bt234.2.1 bt234.2.2.1 bt234.2.2.2.1 bt234.2.2.2.2.1 bt234.2.2.2.2.2 bt248.1).bind fun t254 => (interlocutorlaw6_LexPlaces.l0 k bt248.1 t254 0))))) = some r := by rw [if_pos rfl] at H; exact H
  clear H
  have H := H1
  clear H1
  replace H := Option.bind_eq_some_iff.mp H
  obtain ⟨⟨t234, t235, t236, t237, t240, t243⟩, A80, H⟩ := H
  replace H : ((interlocutorlaw6_Text.f k l2 12).bind fun t247 => ((interlocutorref3_Fold.f k t247).bind fun bt248 => ((lex_Tokens.f t234 t235 t236 t237 t240 t243 bt248.1).bind fun t254 => (interlocutorlaw6_LexPlaces.l0 k bt248.1 t254 0)))) = some r := H
  have A8 := Aside0.mk A80
  clear A80
  replace H := Option.bind_eq_some_iff.mp H
  obtain ⟨t247, A90, H⟩ := H
  replace H : ((interlocutorref3_Fold.f k t247).bind fun bt248 => ((lex_Tokens.f t234 t235 t236 t237 t240 t243 bt248.1).bind fun t254 => (interlocutorlaw6_LexPlaces.l0 k bt248.1 t254 0))) = some r := H
  have A9 := Aside0.mk A90
  clear A90
  replace H := Option.bind_eq_some_iff.mp H
  obtain ⟨⟨t248, t249⟩, A100, H⟩ := H
  replace H : ((lex_Tokens.f t234 t235 t236 t237 t240 t243 t248).bind fun t254 => (interlocutorlaw6_LexPlaces.l0 k t248 t254 0)) = some r := H
  have A10 := Aside0.mk A100
  clear A100
  replace H := Option.bind_eq_some_iff.mp H
  obtain ⟨t254, A110, H⟩ := H
  replace H : (interlocutorlaw6_LexPlaces.l0 k t248 t254 0) = some r := H
  have A11 := Aside0.mk A110
  clear A110
  have H' := Aside0.mk H
  clear H
  go_enter Try.func4, Try.ntmps4
  go_wp2_with (first | ((with_reducible refine gate_dst (N := 3) rfl ?_); (try (refine gate_guard (by rfl) ?_; dsimp only)); refine box_event ?hg (N := 3) ?hd (cs := #[.int .i64 a0_0, .int .i64 a0_1, .int .i64 a0_2, .int .i64 a0_3, .slice A0_4 l0_4.length c0_4, .bool a0_5]) (t := 24) ?hr ?_; (case hd => rfl); (case hg => rfl); (case hr => first | (go_simp; done) | (go_simp; rfl)); intro gb231 hg w12 hbox hb; have n0_ := Aside0.mk (below_step (by exact wU HB.out) hb); have n1_ := Aside0.mk (hbox); have n2_ := Aside0.mk ((by rw [hg]; exact (below_size (by exact wU HB.out)) : w.heap.size ≤ gb231)); have n3_ := Aside0.mk ((by rw [hg]; exact (below_size (by exact wU HB.out)) : w.heap.size ≤ gb231)); clear HB; have HB := n0_; have BK231 := n1_; have GW231 := n2_; have GE231 := n3_; clear n0_ n1_ n2_ n3_; clear hb hbox hg) | (go_at_call 14; (with_reducible refine (interlocutorlaw6_known.calls k  true _ A4.out).mono ?_); rintro e w13 ⟨rfl, hb⟩; have n0_ := Aside0.mk (blk_below (g := gb231) (o := .cells #[.int .i64 a0_0, .int .i64 a0_1, .int .i64 a0_2, .int .i64 a0_3, .slice A0_4 l0_4.length c0_4, .bool a0_5] 24 (0, 0)) (by (with_reducible repeat (first | refine blk_drewN ?_ _ | refine blk_drew ?_ | refine blk_alloc ?_ _)); exact BK231.out) hb); have n1_ := Aside0.mk (below_step (by exact wS HB.out GE231.out) hb); clear BK231; clear HB; have BK231 := n0_; have HB := n1_; clear n0_ n1_; (try clear hb); (try clear hb2); (try clear hk); (try clear hi); have hcz14_0 : w13.cell? ⟨gb231, 0, none⟩ = some (.int .i64 a0_0) := (blk_cell BK231.out 0).trans rfl; have hcz14_1 : w13.cell? ⟨gb231, 1, none⟩ = some (.int .i64 a0_1) := (blk_cell BK231.out 1).trans rfl; have hcz14_2 : w13.cell? ⟨gb231, 2, none⟩ = some (.int .i64 a0_2) := (blk_cell BK231.out 2).trans rfl; have hcz14_3 : w13.cell? ⟨gb231, 3, none⟩ = some (.int .i64 a0_3) := (blk_cell BK231.out 3).trans rfl; have hcz14_4 : w13.cell? ⟨gb231, 4, none⟩ = some (.slice A0_4 l0_4.length c0_4) := (blk_cell BK231.out 4).trans rfl; have hcz14_5 : w13.cell? ⟨gb231, 5, none⟩ = some (.bool a0_5) := (blk_cell BK231.out 5).trans rfl; have hfz14_0 := blk_frozen BK231.out 0; have hfz14_1 := blk_frozen BK231.out 1; have hfz14_2 := blk_frozen BK231.out 2; have hfz14_3 := blk_frozen BK231.out 3; have hfz14_4 := blk_frozen BK231.out 4; have hfz14_5 := blk_frozen BK231.out 5) | (go_at_call 15; (with_reducible refine (interlocutorlaw5_Shape_Few.calls k a0_0 a0_1 a0_2 a0_3 _ _ l0_4 a0_5 true _ ?side1 ?side2 A6.out).mono ?_); (case side1 => repeat (first | exact (Kd.C_below HR0_4.out HB.out) | (with_reducible refine Kd.C_alloc ?_ _) | (with_reducible refine Kd.C_drewN ?_ _) | (with_reducible refine Kd.C_drew ?_))); (case side2 => exact HC0_4.out); rintro e w15 ⟨rfl, hb⟩; have n0_ := Aside0.mk (blk_below (g := gb231) (o := .cells #[.int .i64 a0_0, .int .i64 a0_1, .int .i64 a0_2, .int .i64 a0_3, .slice A0_4 l0_4.length c0_4, .bool a0_5] 24 (0, 0)) (by (with_reducible repeat (first | refine blk_drewN ?_ _ | refine blk_drew ?_ | refine blk_alloc ?_ _)); exact BK231.out) hb); have n1_ := Aside0.mk (below_step (by exact wS HB.out GE231.out) hb); clear BK231; clear HB; have BK231 := n0_; have HB := n1_; clear n0_ n1_; (try clear hb); (try clear hb2); (try clear hk); (try clear hi); have hcz16_0 : w15.cell? ⟨gb231, 0, none⟩ = some (.int .i64 a0_0) := (blk_cell BK231.out 0).trans rfl; have hcz16_1 : w15.cell? ⟨gb231, 1, none⟩ = some (.int .i64 a0_1) := (blk_cell BK231.out 1).trans rfl; have hcz16_2 : w15.cell? ⟨gb231, 2, none⟩ = some (.int .i64 a0_2) := (blk_cell BK231.out 2).trans rfl; have hcz16_3 : w15.cell? ⟨gb231, 3, none⟩ = some (.int .i64 a0_3) := (blk_cell BK231.out 3).trans rfl; have hcz16_4 : w15.cell? ⟨gb231, 4, none⟩ = some (.slice A0_4 l0_4.length c0_4) := (blk_cell BK231.out 4).trans rfl; have hcz16_5 : w15.cell? ⟨gb231, 5, none⟩ = some (.bool a0_5) := (blk_cell BK231.out 5).trans rfl; have hfz16_0 := blk_frozen BK231.out 0; have hfz16_1 := blk_frozen BK231.out 1; have hfz16_2 := blk_frozen BK231.out 2; have hfz16_3 := blk_frozen BK231.out 3; have hfz16_4 := blk_frozen BK231.out 4; have hfz16_5 := blk_frozen BK231.out 5) | (go_at_call 16; (with_reducible refine (interlocutorlaw6_Locale.calls k a0_0 a0_1 a0_2 a0_3 _ _ l0_4 a0_5 a1 t234 t235 t236 t237 t240 t243 _ ?side1 ?side2 A8.out).mono ?_); (case side1 => repeat (first | exact (Kd.C_below HR0_4.out HB.out) | (with_reducible refine Kd.C_alloc ?_ _) | (with_reducible refine Kd.C_drewN ?_ _) | (with_reducible refine Kd.C_drew ?_))); (case side2 => exact HC0_4.out); rintro e w17 ⟨v238, v241, v244, rfl, ho0, ho1, ho2, hb⟩; have n0_ := Aside0.mk (Kd.V_lower (Kd.V_mono (ok' := fun k_ => k_ ≠ gb231) ho0 (fun k_ hk_ => (Kd.freshB (g := gb231) (o := .cells #[.int .i64 a0_0, .int .i64 a0_1, .int .i64 a0_2, .int .i64 a0_3, .slice A0_4 l0_4.length c0_4, .bool a0_5] 24 (0, 0)) (by (with_reducible repeat (first | refine blk_drewN ?_ _ | refine blk_drew ?_ | refine blk_alloc ?_ _)); exact BK231.out) k_ hk_))) (below_size (by exact wS HB.out GE231.out))); have n1_ := Aside0.mk (Kd.V_lower (Kd.V_mono (ok' := fun k_ => k_ ≠ gb231) ho1 (fun k_ hk_ => (Kd.freshB (g := gb231) (o := .cells #[.int .i64 a0_0, .int .i64 a0_1, .int .i64 a0_2, .int .i64 a0_3, .slice A0_4 l0_4.length c0_4, .bool a0_5] 24 (0, 0)) (by (with_reducible repeat (first | refine blk_drewN ?_ _ | refine blk_drew ?_ | refine blk_alloc ?_ _)); exact BK231.out) k_ hk_))) (below_size (by exact wS HB.out GE231.out))); have n2_ := Aside0.mk (Kd.V_lower (Kd.V_mono (ok' := fun k_ => k_ ≠ gb231) ho2 (fun k_ hk_ => (Kd.freshB (g := gb231) (o := .cells #[.int .i64 a0_0, .int .i64 a0_1, .int .i64 a0_2, .int .i64 a0_3, .slice A0_4 l0_4.length c0_4, .bool a0_5] 24 (0, 0)) (by (with_reducible repeat (first | refine blk_drewN ?_ _ | refine blk_drew ?_ | refine blk_alloc ?_ _)); exact BK231.out) k_ hk_))) (below_size (by exact wS HB.out GE231.out))); have n3_ := Aside0.mk (blk_below (g := gb231) (o := .cells #[.int .i64 a0_0, .int .i64 a0_1, .int .i64 a0_2, .int .i64 a0_3, .slice A0_4 l0_4.length c0_4, .bool a0_5] 24 (0, 0)) (by (with_reducible repeat (first | refine blk_drewN ?_ _ | refine blk_drew ?_ | refine blk_alloc ?_ _)); exact BK231.out) hb); have n4_ := Aside0.mk (below_step (by exact wS HB.out GE231.out) hb); clear BK231; clear HB; have HO239 := n0_; have HO242 := n1_; have HO245 := n2_; have BK231 := n3_; have HB := n4_; clear n0_ n1_ n2_ n3_ n4_; (try clear hb); (try clear hb2); (try clear hk); (try clear hi); (try clear ho0); (try clear ho1); (try clear ho2)) | ((with_reducible refine gate_dst (N := 7) rfl ?_); (try (refine gate_guard (by rfl) ?_; dsimp only)); refine box_event ?hg (N := 7) ?hd (cs := #[.string (⟨#[]⟩ : ByteArray), .int .i64 0, .int .i64 0, .slice none 0 0, .slice none 0 0, .slice none 0 0]) (t := 32) ?hr ?_; (case hd => rfl); (case hg => rfl); (case hr => first | (go_simp; done) | (go_simp; rfl)); intro gb246 hg w18 hbox hb; have n0_ := Aside0.mk (Kd.V_below (Kd.V_elderB (by exact vU HO239.out) gb246 (Nat.le_of_eq hg.symm)) hb); have n1_ := Aside0.mk (Kd.V_below (Kd.V_elderB (by exact vU HO242.out) gb246 (Nat.le_of_eq hg.symm)) hb); have n2_ := Aside0.mk (Kd.V_below (Kd.V_elderB (by exact vU HO245.out) gb246 (Nat.le_of_eq hg.symm)) hb); have n3_ := Aside0.mk (blk_below (g := gb231) (o := .cells #[.int .i64 a0_0, .int .i64 a0_1, .int .i64 a0_2, .int .i64 a0_3, .slice A0_4 l0_4.length c0_4, .bool a0_5] 24 (0, 0)) (by (with_reducible repeat (first | refine blk_drewN ?_ _ | refine blk_drew ?_ | refine blk_alloc ?_ _)); exact BK231.out) hb); have n4_ := Aside0.mk (below_step (by exact wS HB.out GE231.out) hb); have n5_ := Aside0.mk (hbox); have n6_ := Aside0.mk ((by rw [hg]; exact (below_size (by exact wS HB.out GE231.out)) : w.heap.size ≤ gb246)); have n7_ := Aside0.mk ((by rw [hg]; exact (below_size (by exact wS HB.out GE231.out)) : w.heap.size ≤ gb246)); have n8_ := Aside0.mk ((by rw [hg]; exact Nat.ne_of_lt (blk_lt (g := gb231) (o := .cells #[.int .i64 a0_0, .int .i64 a0_1, .int .i64 a0_2, .int .i64 a0_3, .slice A0_4 l0_4.length c0_4, .bool a0_5] 24 (0, 0)) (by (with_reducible repeat (first | refine blk_drewN ?_ _ | refine blk_drew ?_ | refine blk_alloc ?_ _)); exact BK231.out)) : gb231 ≠ gb246)); have n9_ := Aside0.mk ((by rw [hg]; exact Nat.ne_of_gt (blk_lt (g := gb231) (o := .cells #[.int .i64 a0_0, .int .i64 a0_1, .int .i64 a0_2, .int .i64 a0_3, .slice A0_4 l0_4.length c0_4, .bool a0_5] 24 (0, 0)) (by (with_reducible repeat (first | refine blk_drewN ?_ _ | refine blk_drew ?_ | refine blk_alloc ?_ _)); exact BK231.out)) : gb246 ≠ gb231)); clear HO239; clear HO242; clear HO245; clear BK231; clear HB; have HO239 := n0_; have HO242 := n1_; have HO245 := n2_; have BK231 := n3_; have HB := n4_; have BK246 := n5_; have GW246 := n6_; have GE246 := n7_; have NB231_246 := n8_; have NB246_231 := n9_; clear n0_ n1_ n2_ n3_ n4_ n5_ n6_ n7_ n8_ n9_; clear hb hbox hg; have hnb19 := NB246_231.out; have hnc19 := NB231_246.out; have hcz20_0 : w18.cell? ⟨gb246, 0, none⟩ = some (.string (⟨#[]⟩ : ByteArray)) := (blk_cell BK246.out 0).trans rfl; have hcz20_1 : w18.cell? ⟨gb246, 1, none⟩ = some (.int .i64 0) := (blk_cell BK246.out 1).trans rfl; have hcz20_2 : w18.cell? ⟨gb246, 2, none⟩ = some (.int .i64 0) := (blk_cell BK246.out 2).trans rfl; have hcz20_3 : w18.cell? ⟨gb246, 3, none⟩ = some (.slice none 0 0) := (blk_cell BK246.out 3).trans rfl; have hcz20_4 : w18.cell? ⟨gb246, 4, none⟩ = some (.slice none 0 0) := (blk_cell BK246.out 4).trans rfl; have hcz20_5 : w18.cell? ⟨gb246, 5, none⟩ = some (.slice none 0 0) := (blk_cell BK246.out 5).trans rfl; have hfz20_0 := blk_frozen BK246.out 0; have hfz20_1 := blk_frozen BK246.out 1; have hfz20_2 := blk_frozen BK246.out 2; have hfz20_3 := blk_frozen BK246.out 3; have hfz20_4 := blk_frozen BK246.out 4; have hfz20_5 := blk_frozen BK246.out 5; obtain ⟨Ao21, co21, eo21⟩ := Kd.V_slice HO239.out; subst eo21; obtain ⟨Ao22, co22, eo22⟩ := Kd.V_slice HO242.out; subst eo22; obtain ⟨Ao23, co23, eo23⟩ := Kd.V_slice HO245.out; subst eo23) | (go_at_call 17; (with_reducible refine (interlocutorlaw6_Text.calls k _ _ l2 12 t247 _ ?side1 ?side2 A9.out).mono ?_); (case side1 => exact Kd.C_below HR2.out (by exact wZ HB.out GE231.out GE246.out)); (case side2 => exact HC2.out); rintro e w24 ⟨rfl, hb⟩; have n0_ := Aside0.mk (Kd.V_below (by exact vU ((Kd.V_mono (Kd.V_far (p := ⟨gb246, 5, none⟩) (Kd.V_far (p := ⟨gb246, 4, none⟩) (Kd.V_far (p := ⟨gb246, 3, none⟩) (Kd.V_far (p := ⟨gb246, 2, none⟩) (Kd.V_far (p := ⟨gb246, 1, none⟩) (Kd.V_far (p := ⟨gb246, 0, none⟩) (Kd.V_mono HO239.out (fun k_ hk => (⟨hk, hk.2⟩ : _ ∧ k_ ≠ gb246))) (fun _ hk => hk.2) (.string t234)) (fun _ hk => hk.2) (.int .i64 t235)) (fun _ hk => hk.2) (.int .i64 t236)) (fun _ hk => hk.2) (.slice Ao21 t237.length co21)) (fun _ hk => hk.2) (.slice Ao22 t240.length co22)) (fun _ hk => hk.2) (.slice Ao23 t243.length co23)) (fun _ h_ => h_.1)))) hb); have n1_ := Aside0.mk (Kd.V_below (by exact vU ((Kd.V_mono (Kd.V_far (p := ⟨gb246, 5, none⟩) (Kd.V_far (p := ⟨gb246, 4, none⟩) (Kd.V_far (p := ⟨gb246, 3, none⟩) (Kd.V_far (p := ⟨gb246, 2, none⟩) (Kd.V_far (p := ⟨gb246, 1, none⟩) (Kd.V_far (p := ⟨gb246, 0, none⟩) (Kd.V_mono HO242.out (fun k_ hk => (⟨hk, hk.2⟩ : _ ∧ k_ ≠ gb246))) (fun _ hk => hk.2) (.string t234)) (fun _ hk => hk.2) (.int .i64 t235)) (fun _ hk => hk.2) (.int .i64 t236)) (fun _ hk => hk.2) (.slice Ao21 t237.length co21)) (fun _ hk => hk.2) (.slice Ao22 t240.length co22)) (fun _ hk => hk.2) (.slice Ao23 t243.length co23)) (fun _ h_ => h_.1)))) hb); have n2_ := Aside0.mk (Kd.V_below (by exact vU ((Kd.V_mono (Kd.V_far (p := ⟨gb246, 5, none⟩) (Kd.V_far (p := ⟨gb246, 4, none⟩) (Kd.V_far (p := ⟨gb246, 3, none⟩) (Kd.V_far (p := ⟨gb246, 2, none⟩) (Kd.V_far (p := ⟨gb246, 1, none⟩) (Kd.V_far (p := ⟨gb246, 0, none⟩) (Kd.V_mono HO245.out (fun k_ hk => (⟨hk, hk.2⟩ : _ ∧ k_ ≠ gb246))) (fun _ hk => hk.2) (.string t234)) (fun _ hk => hk.2) (.int .i64 t235)) (fun _ hk => hk.2) (.int .i64 t236)) (fun _ hk => hk.2) (.slice Ao21 t237.length co21)) (fun _ hk => hk.2) (.slice Ao22 t240.length co22)) (fun _ hk => hk.2) (.slice Ao23 t243.length co23)) (fun _ h_ => h_.1)))) hb); have n3_ := Aside0.mk (blk_below (g := gb231) (o := .cells #[.int .i64 a0_0, .int .i64 a0_1, .int .i64 a0_2, .int .i64 a0_3, .slice A0_4 l0_4.length c0_4, .bool a0_5] 24 (0, 0)) (by (with_reducible repeat (first | refine blk_drewN ?_ _ | refine blk_drew ?_ | refine blk_alloc ?_ _)); refine blk_far ?_ NB231_246.out _; (with_reducible repeat (first | refine blk_drewN ?_ _ | refine blk_drew ?_ | refine blk_alloc ?_ _)); refine blk_far ?_ NB231_246.out _; (with_reducible repeat (first | refine blk_drewN ?_ _ | refine blk_drew ?_ | refine blk_alloc ?_ _)); refine blk_far ?_ NB231_246.out _; (with_reducible repeat (first | refine blk_drewN ?_ _ | refine blk_drew ?_ | refine blk_alloc ?_ _)); refine blk_far ?_ NB231_246.out _; (with_reducible repeat (first | refine blk_drewN ?_ _ | refine blk_drew ?_ | refine blk_alloc ?_ _)); refine blk_far ?_ NB231_246.out _; (with_reducible repeat (first | refine blk_drewN ?_ _ | refine blk_drew ?_ | refine blk_alloc ?_ _)); refine blk_far ?_ NB231_246.out _; (with_reducible repeat (first | refine blk_drewN ?_ _ | refine blk_drew ?_ | refine blk_alloc ?_ _)); exact BK231.out) hb); have n4_ := Aside0.mk (blk_below (g := gb246) (o := .cells #[.string t234, .int .i64 t235, .int .i64 t236, .slice Ao21 t237.length co21, .slice Ao22 t240.length co22, .slice Ao23 t243.length co23] 32 (0, 0)) (by (with_reducible repeat (first | refine blk_drewN ?_ _ | refine blk_drew ?_ | refine blk_alloc ?_ _)); refine blk_put (cs := #[.string t234, .int .i64 t235, .int .i64 t236, .slice Ao21 t237.length co21, .slice Ao22 t240.length co22, .slice none 0 0]) ?_ 5 _ rfl; (with_reducible repeat (first | refine blk_drewN ?_ _ | refine blk_drew ?_ | refine blk_alloc ?_ _)); refine blk_put (cs := #[.string t234, .int .i64 t235, .int .i64 t236, .slice Ao21 t237.length co21, .slice none 0 0, .slice none 0 0]) ?_ 4 _ rfl; (with_reducible repeat (first | refine blk_drewN ?_ _ | refine blk_drew ?_ | refine blk_alloc ?_ _)); refine blk_put (cs := #[.string t234, .int .i64 t235, .int .i64 t236, .slice none 0 0, .slice none 0 0, .slice none 0 0]) ?_ 3 _ rfl; (with_reducible repeat (first | refine blk_drewN ?_ _ | refine blk_drew ?_ | refine blk_alloc ?_ _)); refine blk_put (cs := #[.string t234, .int .i64 t235, .int .i64 0, .slice none 0 0, .slice none 0 0, .slice none 0 0]) ?_ 2 _ rfl; (with_reducible repeat (first | refine blk_drewN ?_ _ | refine blk_drew ?_ | refine blk_alloc ?_ _)); refine blk_put (cs := #[.string t234, .int .i64 0, .int .i64 0, .slice none 0 0, .slice none 0 0, .slice none 0 0]) ?_ 1 _ rfl; (with_reducible repeat (first | refine blk_drewN ?_ _ | refine blk_drew ?_ | refine blk_alloc ?_ _)); refine blk_put (cs := #[.string (⟨#[]⟩ : ByteArray), .int .i64 0, .int .i64 0, .slice none 0 0, .slice none 0 0, .slice none 0 0]) ?_ 0 _ rfl; (with_reducible repeat (first | refine blk_drewN ?_ _ | refine blk_drew ?_ | refine blk_alloc ?_ _)); exact BK246.out) hb); have n5_ := Aside0.mk (below_step (by exact wZ HB.out GE231.out GE246.out) hb); clear HO239; clear HO242; clear HO245; clear BK231; clear BK246; clear HB; have HO239 := n0_; have HO242 := n1_; have HO245 := n2_; have BK231 := n3_; have BK246 := n4_; have HB := n5_; clear n0_ n1_ n2_ n3_ n4_ n5_; (try clear hb); (try clear hb2); (try clear hk); (try clear hi)) | (go_at_call 19; (with_reducible refine (interlocutorref3_Fold.calls k t247 t248 t249 _ A10.out).mono ?_); rintro e w25 ⟨v250, v252, rfl, ho0, ho1, hb⟩; have n0_ := Aside0.mk (Kd.V_mono (Kd.V_told (Kd.V_told (Kd.V_old (by exact vU HO239.out) hb) (Kd.R_base ho0)) (Kd.R_base ho1)) (fun _ h_ => h_.1)); have n1_ := Aside0.mk (Kd.V_mono (Kd.V_told (Kd.V_told (Kd.V_old (by exact vU HO242.out) hb) (Kd.R_base ho0)) (Kd.R_base ho1)) (fun _ h_ => h_.1)); have n2_ := Aside0.mk (Kd.V_mono (Kd.V_told (Kd.V_told (Kd.V_old (by exact vU HO245.out) hb) (Kd.R_base ho0)) (Kd.R_base ho1)) (fun _ h_ => h_.1)); have n3_ := Aside0.mk (Kd.R_lower ho0 (below_size (by exact wZ HB.out GE231.out GE246.out))); have n4_ := Aside0.mk (Kd.R_lower ho1 (below_size (by exact wZ HB.out GE231.out GE246.out))); have n5_ := Aside0.mk (blk_below (g := gb231) (o := .cells #[.int .i64 a0_0, .int .i64 a0_1, .int .i64 a0_2, .int .i64 a0_3, .slice A0_4 l0_4.length c0_4, .bool a0_5] 24 (0, 0)) (by (with_reducible repeat (first | refine blk_drewN ?_ _ | refine blk_drew ?_ | refine blk_alloc ?_ _)); exact BK231.out) hb); have n6_ := Aside0.mk (blk_below (g := gb246) (o := .cells #[.string t234, .int .i64 t235, .int .i64 t236, .slice Ao21 t237.length co21, .slice Ao22 t240.length co22, .slice Ao23 t243.length co23] 32 (0, 0)) (by (with_reducible repeat (first | refine blk_drewN ?_ _ | refine blk_drew ?_ | refine blk_alloc ?_ _)); exact BK246.out) hb); have n7_ := Aside0.mk (below_step (by exact wZ HB.out GE231.out GE246.out) hb); clear HO239; clear HO242; clear HO245; clear BK231; clear BK246; clear HB; have HO239 := n0_; have HO242 := n1_; have HO245 := n2_; have HO251 := n3_; have HO253 := n4_; have BK231 := n5_; have BK246 := n6_; have HB := n7_; clear n0_ n1_ n2_ n3_ n4_ n5_ n6_ n7_; (try clear hb); (try clear hb2); (try clear hk); (try clear hi); (try clear ho0); (try clear ho1); have hcz26_0 : w25.cell? ⟨gb246, 0, none⟩ = some (.string t234) := (blk_cell BK246.out 0).trans rfl; have hcz26_1 : w25.cell? ⟨gb246, 1, none⟩ = some (.int .i64 t235) := (blk_cell BK246.out 1).trans rfl; have hcz26_2 : w25.cell? ⟨gb246, 2, none⟩ = some (.int .i64 t236) := (blk_cell BK246.out 2).trans rfl; have hcz26_3 : w25.cell? ⟨gb246, 3, none⟩ = some (.slice Ao21 t237.length co21) := (blk_cell BK246.out 3).trans rfl; have hcz26_4 : w25.cell? ⟨gb246, 4, none⟩ = some (.slice Ao22 t240.length co22) := (blk_cell BK246.out 4).trans rfl; have hcz26_5 : w25.cell? ⟨gb246, 5, none⟩ = some (.slice Ao23 t243.length co23) := (blk_cell BK246.out 5).trans rfl; have hfz26_0 := blk_frozen BK246.out 0; have hfz26_1 := blk_frozen BK246.out 1; have hfz26_2 := blk_frozen BK246.out 2; have hfz26_3 := blk_frozen BK246.out 3; have hfz26_4 := blk_frozen BK246.out 4; have hfz26_5 := blk_frozen BK246.out 5; obtain ⟨Ao27, co27, eo27⟩ := Kd.R_slice HO251.out; subst eo27) | (go_at_call 20; (with_reducible refine (lex_Tokens.calls t234 t235 t236 _ _ t237 _ _ t240 _ _ t243 _ _ t248 t254 _ ?side1 ?side2 ?side3 ?side4 ?side5 ?side6 ?side7 ?side8 A11.out).mono ?_); (case side1 => repeat (first | exact (Kd.V_reads' HO239.out).2.2 | (with_reducible refine Kd.C_alloc ?_ _) | (with_reducible refine Kd.C_drewN ?_ _) | (with_reducible refine Kd.C_drew ?_))); (case side2 => exact (Kd.V_reads' HO239.out).2.1); (case side3 => repeat (first | exact (Kd.V_reads' HO242.out).2.2 | (with_reducible refine Kd.C_alloc ?_ _) | (with_reducible refine Kd.C_drewN ?_ _) | (with_reducible refine Kd.C_drew ?_))); (case side4 => exact (Kd.V_reads' HO242.out).2.1); (case side5 => repeat (first | exact (Kd.V_reads' HO245.out).2.2 | (with_reducible refine Kd.C_alloc ?_ _) | (with_reducible refine Kd.C_drewN ?_ _) | (with_reducible refine Kd.C_drew ?_))); (case side6 => exact (Kd.V_reads' HO245.out).2.1); (case side7 => repeat (first | exact (Kd.R_reads' HO251.out).2.2 | (with_reducible refine Kd.C_alloc ?_ _) | (with_reducible refine Kd.C_drewN ?_ _) | (with_reducible refine Kd.C_drew ?_))); (case side8 => exact (Kd.R_reads' HO251.out).2.1); rintro e w28 ⟨v255, rfl, ho0, hb⟩; have n0_ := Aside0.mk (Kd.V_elder' (by exact vU HO239.out) (Kd.R_base ho0) hb); have n1_ := Aside0.mk (Kd.V_elder' (by exact vU HO242.out) (Kd.R_base ho0) hb); have n2_ := Aside0.mk (Kd.V_elder' (by exact vU HO245.out) (Kd.R_base ho0) hb); have n3_ := Aside0.mk (Kd.R_below (by exact rU HO251.out) hb); have n4_ := Aside0.mk (Kd.R_below (by exact rU HO253.out) hb); have n5_ := Aside0.mk (Kd.R_lower ho0 (below_size (by exact wZ HB.out GE231.out GE246.out))); have n6_ := Aside0.mk (blk_below (g := gb231) (o := .cells #[.int .i64 a0_0, .int .i64 a0_1, .int .i64 a0_2, .int .i64 a0_3, .slice A0_4 l0_4.length c0_4, .bool a0_5] 24 (0, 0)) (by (with_reducible repeat (first | refine blk_drewN ?_ _ | refine blk_drew ?_ | refine blk_alloc ?_ _)); exact BK231.out) hb); have n7_ := Aside0.mk (blk_below (g := gb246) (o := .cells #[.string t234, .int .i64 t235, .int .i64 t236, .slice Ao21 t237.length co21, .slice Ao22 t240.length co22, .slice Ao23 t243.length co23] 32 (0, 0)) (by (with_reducible repeat (first | refine blk_drewN ?_ _ | refine blk_drew ?_ | refine blk_alloc ?_ _)); exact BK246.out) hb); have n8_ := Aside0.mk (below_step (by exact wZ HB.out GE231.out GE246.out) hb); clear HO239; clear HO242; clear HO245; clear HO251; clear HO253; clear BK231; clear BK246; clear HB; have HO239 := n0_; have HO242 := n1_; have HO245 := n2_; have HO251 := n3_; have HO253 := n4_; have HO256 := n5_; have BK231 := n6_; have BK246 := n7_; have HB := n8_; clear n0_ n1_ n2_ n3_ n4_ n5_ n6_ n7_ n8_; (try clear hb); (try clear hb2); (try clear hk); (try clear hi); (try clear ho0)))
  repeat (go_quiet (first | ((with_reducible refine gate_dst (N := 3) rfl ?_); (try (refine gate_guard (by rfl) ?_; dsimp only)); refine box_event ?hg (N := 3) ?hd (cs := #[.int .i64 a0_0, .int .i64 a0_1, .int .i64 a0_2, .int .i64 a0_3, .slice A0_4 l0_4.length c0_4, .bool a0_5]) (t := 24) ?hr ?_; (case hd => rfl); (case hg => rfl); (case hr => first | (go_simp; done) | (go_simp; rfl)); intro gb231 hg w12 hbox hb; have n0_ := Aside0.mk (below_step (by exact wU HB.out) hb); have n1_ := Aside0.mk (hbox); have n2_ := Aside0.mk ((by rw [hg]; exact (below_size (by exact wU HB.out)) : w.heap.size ≤ gb231)); have n3_ := Aside0.mk ((by rw [hg]; exact (below_size (by exact wU HB.out)) : w.heap.size ≤ gb231)); clear HB; have HB := n0_; have BK231 := n1_; have GW231 := n2_; have GE231 := n3_; clear n0_ n1_ n2_ n3_; clear hb hbox hg) | (go_at_call 14; (with_reducible refine (interlocutorlaw6_known.calls k  true _ A4.out).mono ?_); rintro e w13 ⟨rfl, hb⟩; have n0_ := Aside0.mk (blk_below (g := gb231) (o := .cells #[.int .i64 a0_0, .int .i64 a0_1, .int .i64 a0_2, .int .i64 a0_3, .slice A0_4 l0_4.length c0_4, .bool a0_5] 24 (0, 0)) (by (with_reducible repeat (first | refine blk_drewN ?_ _ | refine blk_drew ?_ | refine blk_alloc ?_ _)); exact BK231.out) hb); have n1_ := Aside0.mk (below_step (by exact wS HB.out GE231.out) hb); clear BK231; clear HB; have BK231 := n0_; have HB := n1_; clear n0_ n1_; (try clear hb); (try clear hb2); (try clear hk); (try clear hi); have hcz14_0 : w13.cell? ⟨gb231, 0, none⟩ = some (.int .i64 a0_0) := (blk_cell BK231.out 0).trans rfl; have hcz14_1 : w13.cell? ⟨gb231, 1, none⟩ = some (.int .i64 a0_1) := (blk_cell BK231.out 1).trans rfl; have hcz14_2 : w13.cell? ⟨gb231, 2, none⟩ = some (.int .i64 a0_2) := (blk_cell BK231.out 2).trans rfl; have hcz14_3 : w13.cell? ⟨gb231, 3, none⟩ = some (.int .i64 a0_3) := (blk_cell BK231.out 3).trans rfl; have hcz14_4 : w13.cell? ⟨gb231, 4, none⟩ = some (.slice A0_4 l0_4.length c0_4) := (blk_cell BK231.out 4).trans rfl; have hcz14_5 : w13.cell? ⟨gb231, 5, none⟩ = some (.bool a0_5) := (blk_cell BK231.out 5).trans rfl; have hfz14_0 := blk_frozen BK231.out 0; have hfz14_1 := blk_frozen BK231.out 1; have hfz14_2 := blk_frozen BK231.out 2; have hfz14_3 := blk_frozen BK231.out 3; have hfz14_4 := blk_frozen BK231.out 4; have hfz14_5 := blk_frozen BK231.out 5) | (go_at_call 15; (with_reducible refine (interlocutorlaw5_Shape_Few.calls k a0_0 a0_1 a0_2 a0_3 _ _ l0_4 a0_5 true _ ?side1 ?side2 A6.out).mono ?_); (case side1 => repeat (first | exact (Kd.C_below HR0_4.out HB.out) | (with_reducible refine Kd.C_alloc ?_ _) | (with_reducible refine Kd.C_drewN ?_ _) | (with_reducible refine Kd.C_drew ?_))); (case side2 => exact HC0_4.out); rintro e w15 ⟨rfl, hb⟩; have n0_ := Aside0.mk (blk_below (g := gb231) (o := .cells #[.int .i64 a0_0, .int .i64 a0_1, .int .i64 a0_2, .int .i64 a0_3, .slice A0_4 l0_4.length c0_4, .bool a0_5] 24 (0, 0)) (by (with_reducible repeat (first | refine blk_drewN ?_ _ | refine blk_drew ?_ | refine blk_alloc ?_ _)); exact BK231.out) hb); have n1_ := Aside0.mk (below_step (by exact wS HB.out GE231.out) hb); clear BK231; clear HB; have BK231 := n0_; have HB := n1_; clear n0_ n1_; (try clear hb); (try clear hb2); (try clear hk); (try clear hi); have hcz16_0 : w15.cell? ⟨gb231, 0, none⟩ = some (.int .i64 a0_0) := (blk_cell BK231.out 0).trans rfl; have hcz16_1 : w15.cell? ⟨gb231, 1, none⟩ = some (.int .i64 a0_1) := (blk_cell BK231.out 1).trans rfl; have hcz16_2 : w15.cell? ⟨gb231, 2, none⟩ = some (.int .i64 a0_2) := (blk_cell BK231.out 2).trans rfl; have hcz16_3 : w15.cell? ⟨gb231, 3, none⟩ = some (.int .i64 a0_3) := (blk_cell BK231.out 3).trans rfl; have hcz16_4 : w15.cell? ⟨gb231, 4, none⟩ = some (.slice A0_4 l0_4.length c0_4) := (blk_cell BK231.out 4).trans rfl; have hcz16_5 : w15.cell? ⟨gb231, 5, none⟩ = some (.bool a0_5) := (blk_cell BK231.out 5).trans rfl; have hfz16_0 := blk_frozen BK231.out 0; have hfz16_1 := blk_frozen BK231.out 1; have hfz16_2 := blk_frozen BK231.out 2; have hfz16_3 := blk_frozen BK231.out 3; have hfz16_4 := blk_frozen BK231.out 4; have hfz16_5 := blk_frozen BK231.out 5) | (go_at_call 16; (with_reducible refine (interlocutorlaw6_Locale.calls k a0_0 a0_1 a0_2 a0_3 _ _ l0_4 a0_5 a1 t234 t235 t236 t237 t240 t243 _ ?side1 ?side2 A8.out).mono ?_); (case side1 => repeat (first | exact (Kd.C_below HR0_4.out HB.out) | (with_reducible refine Kd.C_alloc ?_ _) | (with_reducible refine Kd.C_drewN ?_ _) | (with_reducible refine Kd.C_drew ?_))); (case side2 => exact HC0_4.out); rintro e w17 ⟨v238, v241, v244, rfl, ho0, ho1, ho2, hb⟩; have n0_ := Aside0.mk (Kd.V_lower (Kd.V_mono (ok' := fun k_ => k_ ≠ gb231) ho0 (fun k_ hk_ => (Kd.freshB (g := gb231) (o := .cells #[.int .i64 a0_0, .int .i64 a0_1, .int .i64 a0_2, .int .i64 a0_3, .slice A0_4 l0_4.length c0_4, .bool a0_5] 24 (0, 0)) (by (with_reducible repeat (first | refine blk_drewN ?_ _ | refine blk_drew ?_ | refine blk_alloc ?_ _)); exact BK231.out) k_ hk_))) (below_size (by exact wS HB.out GE231.out))); have n1_ := Aside0.mk (Kd.V_lower (Kd.V_mono (ok' := fun k_ => k_ ≠ gb231) ho1 (fun k_ hk_ => (Kd.freshB (g := gb231) (o := .cells #[.int .i64 a0_0, .int .i64 a0_1, .int .i64 a0_2, .int .i64 a0_3, .slice A0_4 l0_4.length c0_4, .bool a0_5] 24 (0, 0)) (by (with_reducible repeat (first | refine blk_drewN ?_ _ | refine blk_drew ?_ | refine blk_alloc ?_ _)); exact BK231.out) k_ hk_))) (below_size (by exact wS HB.out GE231.out))); have n2_ := Aside0.mk (Kd.V_lower (Kd.V_mono (ok' := fun k_ => k_ ≠ gb231) ho2 (fun k_ hk_ => (Kd.freshB (g := gb231) (o := .cells #[.int .i64 a0_0, .int .i64 a0_1, .int .i64 a0_2, .int .i64 a0_3, .slice A0_4 l0_4.length c0_4, .bool a0_5] 24 (0, 0)) (by (with_reducible repeat (first | refine blk_drewN ?_ _ | refine blk_drew ?_ | refine blk_alloc ?_ _)); exact BK231.out) k_ hk_))) (below_size (by exact wS HB.out GE231.out))); have n3_ := Aside0.mk (blk_below (g := gb231) (o := .cells #[.int .i64 a0_0, .int .i64 a0_1, .int .i64 a0_2, .int .i64 a0_3, .slice A0_4 l0_4.length c0_4, .bool a0_5] 24 (0, 0)) (by (with_reducible repeat (first | refine blk_drewN ?_ _ | refine blk_drew ?_ | refine blk_alloc ?_ _)); exact BK231.out) hb); have n4_ := Aside0.mk (below_step (by exact wS HB.out GE231.out) hb); clear BK231; clear HB; have HO239 := n0_; have HO242 := n1_; have HO245 := n2_; have BK231 := n3_; have HB := n4_; clear n0_ n1_ n2_ n3_ n4_; (try clear hb); (try clear hb2); (try clear hk); (try clear hi); (try clear ho0); (try clear ho1); (try clear ho2)) | ((with_reducible refine gate_dst (N := 7) rfl ?_); (try (refine gate_guard (by rfl) ?_; dsimp only)); refine box_event ?hg (N := 7) ?hd (cs := #[.string (⟨#[]⟩ : ByteArray), .int .i64 0, .int .i64 0, .slice none 0 0, .slice none 0 0, .slice none 0 0]) (t := 32) ?hr ?_; (case hd => rfl); (case hg => rfl); (case hr => first | (go_simp; done) | (go_simp; rfl)); intro gb246 hg w18 hbox hb; have n0_ := Aside0.mk (Kd.V_below (Kd.V_elderB (by exact vU HO239.out) gb246 (Nat.le_of_eq hg.symm)) hb); have n1_ := Aside0.mk (Kd.V_below (Kd.V_elderB (by exact vU HO242.out) gb246 (Nat.le_of_eq hg.symm)) hb); have n2_ := Aside0.mk (Kd.V_below (Kd.V_elderB (by exact vU HO245.out) gb246 (Nat.le_of_eq hg.symm)) hb); have n3_ := Aside0.mk (blk_below (g := gb231) (o := .cells #[.int .i64 a0_0, .int .i64 a0_1, .int .i64 a0_2, .int .i64 a0_3, .slice A0_4 l0_4.length c0_4, .bool a0_5] 24 (0, 0)) (by (with_reducible repeat (first | refine blk_drewN ?_ _ | refine blk_drew ?_ | refine blk_alloc ?_ _)); exact BK231.out) hb); have n4_ := Aside0.mk (below_step (by exact wS HB.out GE231.out) hb); have n5_ := Aside0.mk (hbox); have n6_ := Aside0.mk ((by rw [hg]; exact (below_size (by exact wS HB.out GE231.out)) : w.heap.size ≤ gb246)); have n7_ := Aside0.mk ((by rw [hg]; exact (below_size (by exact wS HB.out GE231.out)) : w.heap.size ≤ gb246)); have n8_ := Aside0.mk ((by rw [hg]; exact Nat.ne_of_lt (blk_lt (g := gb231) (o := .cells #[.int .i64 a0_0, .int .i64 a0_1, .int .i64 a0_2, .int .i64 a0_3, .slice A0_4 l0_4.length c0_4, .bool a0_5] 24 (0, 0)) (by (with_reducible repeat (first | refine blk_drewN ?_ _ | refine blk_drew ?_ | refine blk_alloc ?_ _)); exact BK231.out)) : gb231 ≠ gb246)); have n9_ := Aside0.mk ((by rw [hg]; exact Nat.ne_of_gt (blk_lt (g := gb231) (o := .cells #[.int .i64 a0_0, .int .i64 a0_1, .int .i64 a0_2, .int .i64 a0_3, .slice A0_4 l0_4.length c0_4, .bool a0_5] 24 (0, 0)) (by (with_reducible repeat (first | refine blk_drewN ?_ _ | refine blk_drew ?_ | refine blk_alloc ?_ _)); exact BK231.out)) : gb246 ≠ gb231)); clear HO239; clear HO242; clear HO245; clear BK231; clear HB; have HO239 := n0_; have HO242 := n1_; have HO245 := n2_; have BK231 := n3_; have HB := n4_; have BK246 := n5_; have GW246 := n6_; have GE246 := n7_; have NB231_246 := n8_; have NB246_231 := n9_; clear n0_ n1_ n2_ n3_ n4_ n5_ n6_ n7_ n8_ n9_; clear hb hbox hg; have hnb19 := NB246_231.out; have hnc19 := NB231_246.out; have hcz20_0 : w18.cell? ⟨gb246, 0, none⟩ = some (.string (⟨#[]⟩ : ByteArray)) := (blk_cell BK246.out 0).trans rfl; have hcz20_1 : w18.cell? ⟨gb246, 1, none⟩ = some (.int .i64 0) := (blk_cell BK246.out 1).trans rfl; have hcz20_2 : w18.cell? ⟨gb246, 2, none⟩ = some (.int .i64 0) := (blk_cell BK246.out 2).trans rfl; have hcz20_3 : w18.cell? ⟨gb246, 3, none⟩ = some (.slice none 0 0) := (blk_cell BK246.out 3).trans rfl; have hcz20_4 : w18.cell? ⟨gb246, 4, none⟩ = some (.slice none 0 0) := (blk_cell BK246.out 4).trans rfl; have hcz20_5 : w18.cell? ⟨gb246, 5, none⟩ = some (.slice none 0 0) := (blk_cell BK246.out 5).trans rfl; have hfz20_0 := blk_frozen BK246.out 0; have hfz20_1 := blk_frozen BK246.out 1; have hfz20_2 := blk_frozen BK246.out 2; have hfz20_3 := blk_frozen BK246.out 3; have hfz20_4 := blk_frozen BK246.out 4; have hfz20_5 := blk_frozen BK246.out 5; obtain ⟨Ao21, co21, eo21⟩ := Kd.V_slice HO239.out; subst eo21; obtain ⟨Ao22, co22, eo22⟩ := Kd.V_slice HO242.out; subst eo22; obtain ⟨Ao23, co23, eo23⟩ := Kd.V_slice HO245.out; subst eo23) | (go_at_call 17; (with_reducible refine (interlocutorlaw6_Text.calls k _ _ l2 12 t247 _ ?side1 ?side2 A9.out).mono ?_); (case side1 => exact Kd.C_below HR2.out (by exact wZ HB.out GE231.out GE246.out)); (case side2 => exact HC2.out); rintro e w24 ⟨rfl, hb⟩; have n0_ := Aside0.mk (Kd.V_below (by exact vU ((Kd.V_mono (Kd.V_far (p := ⟨gb246, 5, none⟩) (Kd.V_far (p := ⟨gb246, 4, none⟩) (Kd.V_far (p := ⟨gb246, 3, none⟩) (Kd.V_far (p := ⟨gb246, 2, none⟩) (Kd.V_far (p := ⟨gb246, 1, none⟩) (Kd.V_far (p := ⟨gb246, 0, none⟩) (Kd.V_mono HO239.out (fun k_ hk => (⟨hk, hk.2⟩ : _ ∧ k_ ≠ gb246))) (fun _ hk => hk.2) (.string t234)) (fun _ hk => hk.2) (.int .i64 t235)) (fun _ hk => hk.2) (.int .i64 t236)) (fun _ hk => hk.2) (.slice Ao21 t237.length co21)) (fun _ hk => hk.2) (.slice Ao22 t240.length co22)) (fun _ hk => hk.2) (.slice Ao23 t243.length co23)) (fun _ h_ => h_.1)))) hb); have n1_ := Aside0.mk (Kd.V_below (by exact vU ((Kd.V_mono (Kd.V_far (p := ⟨gb246, 5, none⟩) (Kd.V_far (p := ⟨gb246, 4, none⟩) (Kd.V_far (p := ⟨gb246, 3, none⟩) (Kd.V_far (p := ⟨gb246, 2, none⟩) (Kd.V_far (p := ⟨gb246, 1, none⟩) (Kd.V_far (p := ⟨gb246, 0, none⟩) (Kd.V_mono HO242.out (fun k_ hk => (⟨hk, hk.2⟩ : _ ∧ k_ ≠ gb246))) (fun _ hk => hk.2) (.string t234)) (fun _ hk => hk.2) (.int .i64 t235)) (fun _ hk => hk.2) (.int .i64 t236)) (fun _ hk => hk.2) (.slice Ao21 t237.length co21)) (fun _ hk => hk.2) (.slice Ao22 t240.length co22)) (fun _ hk => hk.2) (.slice Ao23 t243.length co23)) (fun _ h_ => h_.1)))) hb); have n2_ := Aside0.mk (Kd.V_below (by exact vU ((Kd.V_mono (Kd.V_far (p := ⟨gb246, 5, none⟩) (Kd.V_far (p := ⟨gb246, 4, none⟩) (Kd.V_far (p := ⟨gb246, 3, none⟩) (Kd.V_far (p := ⟨gb246, 2, none⟩) (Kd.V_far (p := ⟨gb246, 1, none⟩) (Kd.V_far (p := ⟨gb246, 0, none⟩) (Kd.V_mono HO245.out (fun k_ hk => (⟨hk, hk.2⟩ : _ ∧ k_ ≠ gb246))) (fun _ hk => hk.2) (.string t234)) (fun _ hk => hk.2) (.int .i64 t235)) (fun _ hk => hk.2) (.int .i64 t236)) (fun _ hk => hk.2) (.slice Ao21 t237.length co21)) (fun _ hk => hk.2) (.slice Ao22 t240.length co22)) (fun _ hk => hk.2) (.slice Ao23 t243.length co23)) (fun _ h_ => h_.1)))) hb); have n3_ := Aside0.mk (blk_below (g := gb231) (o := .cells #[.int .i64 a0_0, .int .i64 a0_1, .int .i64 a0_2, .int .i64 a0_3, .slice A0_4 l0_4.length c0_4, .bool a0_5] 24 (0, 0)) (by (with_reducible repeat (first | refine blk_drewN ?_ _ | refine blk_drew ?_ | refine blk_alloc ?_ _)); refine blk_far ?_ NB231_246.out _; (with_reducible repeat (first | refine blk_drewN ?_ _ | refine blk_drew ?_ | refine blk_alloc ?_ _)); refine blk_far ?_ NB231_246.out _; (with_reducible repeat (first | refine blk_drewN ?_ _ | refine blk_drew ?_ | refine blk_alloc ?_ _)); refine blk_far ?_ NB231_246.out _; (with_reducible repeat (first | refine blk_drewN ?_ _ | refine blk_drew ?_ | refine blk_alloc ?_ _)); refine blk_far ?_ NB231_246.out _; (with_reducible repeat (first | refine blk_drewN ?_ _ | refine blk_drew ?_ | refine blk_alloc ?_ _)); refine blk_far ?_ NB231_246.out _; (with_reducible repeat (first | refine blk_drewN ?_ _ | refine blk_drew ?_ | refine blk_alloc ?_ _)); refine blk_far ?_ NB231_246.out _; (with_reducible repeat (first | refine blk_drewN ?_ _ | refine blk_drew ?_ | refine blk_alloc ?_ _)); exact BK231.out) hb); have n4_ := Aside0.mk (blk_below (g := gb246) (o := .cells #[.string t234, .int .i64 t235, .int .i64 t236, .slice Ao21 t237.length co21, .slice Ao22 t240.length co22, .slice Ao23 t243.length co23] 32 (0, 0)) (by (with_reducible repeat (first | refine blk_drewN ?_ _ | refine blk_drew ?_ | refine blk_alloc ?_ _)); refine blk_put (cs := #[.string t234, .int .i64 t235, .int .i64 t236, .slice Ao21 t237.length co21, .slice Ao22 t240.length co22, .slice none 0 0]) ?_ 5 _ rfl; (with_reducible repeat (first | refine blk_drewN ?_ _ | refine blk_drew ?_ | refine blk_alloc ?_ _)); refine blk_put (cs := #[.string t234, .int .i64 t235, .int .i64 t236, .slice Ao21 t237.length co21, .slice none 0 0, .slice none 0 0]) ?_ 4 _ rfl; (with_reducible repeat (first | refine blk_drewN ?_ _ | refine blk_drew ?_ | refine blk_alloc ?_ _)); refine blk_put (cs := #[.string t234, .int .i64 t235, .int .i64 t236, .slice none 0 0, .slice none 0 0, .slice none 0 0]) ?_ 3 _ rfl; (with_reducible repeat (first | refine blk_drewN ?_ _ | refine blk_drew ?_ | refine blk_alloc ?_ _)); refine blk_put (cs := #[.string t234, .int .i64 t235, .int .i64 0, .slice none 0 0, .slice none 0 0, .slice none 0 0]) ?_ 2 _ rfl; (with_reducible repeat (first | refine blk_drewN ?_ _ | refine blk_drew ?_ | refine blk_alloc ?_ _)); refine blk_put (cs := #[.string t234, .int .i64 0, .int .i64 0, .slice none 0 0, .slice none 0 0, .slice none 0 0]) ?_ 1 _ rfl; (with_reducible repeat (first | refine blk_drewN ?_ _ | refine blk_drew ?_ | refine blk_alloc ?_ _)); refine blk_put (cs := #[.string (⟨#[]⟩ : ByteArray), .int .i64 0, .int .i64 0, .slice none 0 0, .slice none 0 0, .slice none 0 0]) ?_ 0 _ rfl; (with_reducible repeat (first | refine blk_drewN ?_ _ | refine blk_drew ?_ | refine blk_alloc ?_ _)); exact BK246.out) hb); have n5_ := Aside0.mk (below_step (by exact wZ HB.out GE231.out GE246.out) hb); clear HO239; clear HO242; clear HO245; clear BK231; clear BK246; clear HB; have HO239 := n0_; have HO242 := n1_; have HO245 := n2_; have BK231 := n3_; have BK246 := n4_; have HB := n5_; clear n0_ n1_ n2_ n3_ n4_ n5_; (try clear hb); (try clear hb2); (try clear hk); (try clear hi)) | (go_at_call 19; (with_reducible refine (interlocutorref3_Fold.calls k t247 t248 t249 _ A10.out).mono ?_); rintro e w25 ⟨v250, v252, rfl, ho0, ho1, hb⟩; have n0_ := Aside0.mk (Kd.V_mono (Kd.V_told (Kd.V_told (Kd.V_old (by exact vU HO239.out) hb) (Kd.R_base ho0)) (Kd.R_base ho1)) (fun _ h_ => h_.1)); have n1_ := Aside0.mk (Kd.V_mono (Kd.V_told (Kd.V_told (Kd.V_old (by exact vU HO242.out) hb) (Kd.R_base ho0)) (Kd.R_base ho1)) (fun _ h_ => h_.1)); have n2_ := Aside0.mk (Kd.V_mono (Kd.V_told (Kd.V_told (Kd.V_old (by exact vU HO245.out) hb) (Kd.R_base ho0)) (Kd.R_base ho1)) (fun _ h_ => h_.1)); have n3_ := Aside0.mk (Kd.R_lower ho0 (below_size (by exact wZ HB.out GE231.out GE246.out))); have n4_ := Aside0.mk (Kd.R_lower ho1 (below_size (by exact wZ HB.out GE231.out GE246.out))); have n5_ := Aside0.mk (blk_below (g := gb231) (o := .cells #[.int .i64 a0_0, .int .i64 a0_1, .int .i64 a0_2, .int .i64 a0_3, .slice A0_4 l0_4.length c0_4, .bool a0_5] 24 (0, 0)) (by (with_reducible repeat (first | refine blk_drewN ?_ _ | refine blk_drew ?_ | refine blk_alloc ?_ _)); exact BK231.out) hb); have n6_ := Aside0.mk (blk_below (g := gb246) (o := .cells #[.string t234, .int .i64 t235, .int .i64 t236, .slice Ao21 t237.length co21, .slice Ao22 t240.length co22, .slice Ao23 t243.length co23] 32 (0, 0)) (by (with_reducible repeat (first | refine blk_drewN ?_ _ | refine blk_drew ?_ | refine blk_alloc ?_ _)); exact BK246.out) hb); have n7_ := Aside0.mk (below_step (by exact wZ HB.out GE231.out GE246.out) hb); clear HO239; clear HO242; clear HO245; clear BK231; clear BK246; clear HB; have HO239 := n0_; have HO242 := n1_; have HO245 := n2_; have HO251 := n3_; have HO253 := n4_; have BK231 := n5_; have BK246 := n6_; have HB := n7_; clear n0_ n1_ n2_ n3_ n4_ n5_ n6_ n7_; (try clear hb); (try clear hb2); (try clear hk); (try clear hi); (try clear ho0); (try clear ho1); have hcz26_0 : w25.cell? ⟨gb246, 0, none⟩ = some (.string t234) := (blk_cell BK246.out 0).trans rfl; have hcz26_1 : w25.cell? ⟨gb246, 1, none⟩ = some (.int .i64 t235) := (blk_cell BK246.out 1).trans rfl; have hcz26_2 : w25.cell? ⟨gb246, 2, none⟩ = some (.int .i64 t236) := (blk_cell BK246.out 2).trans rfl; have hcz26_3 : w25.cell? ⟨gb246, 3, none⟩ = some (.slice Ao21 t237.length co21) := (blk_cell BK246.out 3).trans rfl; have hcz26_4 : w25.cell? ⟨gb246, 4, none⟩ = some (.slice Ao22 t240.length co22) := (blk_cell BK246.out 4).trans rfl; have hcz26_5 : w25.cell? ⟨gb246, 5, none⟩ = some (.slice Ao23 t243.length co23) := (blk_cell BK246.out 5).trans rfl; have hfz26_0 := blk_frozen BK246.out 0; have hfz26_1 := blk_frozen BK246.out 1; have hfz26_2 := blk_frozen BK246.out 2; have hfz26_3 := blk_frozen BK246.out 3; have hfz26_4 := blk_frozen BK246.out 4; have hfz26_5 := blk_frozen BK246.out 5; obtain ⟨Ao27, co27, eo27⟩ := Kd.R_slice HO251.out; subst eo27) | (go_at_call 20; (with_reducible refine (lex_Tokens.calls t234 t235 t236 _ _ t237 _ _ t240 _ _ t243 _ _ t248 t254 _ ?side1 ?side2 ?side3 ?side4 ?side5 ?side6 ?side7 ?side8 A11.out).mono ?_); (case side1 => repeat (first | exact (Kd.V_reads' HO239.out).2.2 | (with_reducible refine Kd.C_alloc ?_ _) | (with_reducible refine Kd.C_drewN ?_ _) | (with_reducible refine Kd.C_drew ?_))); (case side2 => exact (Kd.V_reads' HO239.out).2.1); (case side3 => repeat (first | exact (Kd.V_reads' HO242.out).2.2 | (with_reducible refine Kd.C_alloc ?_ _) | (with_reducible refine Kd.C_drewN ?_ _) | (with_reducible refine Kd.C_drew ?_))); (case side4 => exact (Kd.V_reads' HO242.out).2.1); (case side5 => repeat (first | exact (Kd.V_reads' HO245.out).2.2 | (with_reducible refine Kd.C_alloc ?_ _) | (with_reducible refine Kd.C_drewN ?_ _) | (with_reducible refine Kd.C_drew ?_))); (case side6 => exact (Kd.V_reads' HO245.out).2.1); (case side7 => repeat (first | exact (Kd.R_reads' HO251.out).2.2 | (with_reducible refine Kd.C_alloc ?_ _) | (with_reducible refine Kd.C_drewN ?_ _) | (with_reducible refine Kd.C_drew ?_))); (case side8 => exact (Kd.R_reads' HO251.out).2.1); rintro e w28 ⟨v255, rfl, ho0, hb⟩; have n0_ := Aside0.mk (Kd.V_elder' (by exact vU HO239.out) (Kd.R_base ho0) hb); have n1_ := Aside0.mk (Kd.V_elder' (by exact vU HO242.out) (Kd.R_base ho0) hb); have n2_ := Aside0.mk (Kd.V_elder' (by exact vU HO245.out) (Kd.R_base ho0) hb); have n3_ := Aside0.mk (Kd.R_below (by exact rU HO251.out) hb); have n4_ := Aside0.mk (Kd.R_below (by exact rU HO253.out) hb); have n5_ := Aside0.mk (Kd.R_lower ho0 (below_size (by exact wZ HB.out GE231.out GE246.out))); have n6_ := Aside0.mk (blk_below (g := gb231) (o := .cells #[.int .i64 a0_0, .int .i64 a0_1, .int .i64 a0_2, .int .i64 a0_3, .slice A0_4 l0_4.length c0_4, .bool a0_5] 24 (0, 0)) (by (with_reducible repeat (first | refine blk_drewN ?_ _ | refine blk_drew ?_ | refine blk_alloc ?_ _)); exact BK231.out) hb); have n7_ := Aside0.mk (blk_below (g := gb246) (o := .cells #[.string t234, .int .i64 t235, .int .i64 t236, .slice Ao21 t237.length co21, .slice Ao22 t240.length co22, .slice Ao23 t243.length co23] 32 (0, 0)) (by (with_reducible repeat (first | refine blk_drewN ?_ _ | refine blk_drew ?_ | refine blk_alloc ?_ _)); exact BK246.out) hb); have n8_ := Aside0.mk (below_step (by exact wZ HB.out GE231.out GE246.out) hb); clear HO239; clear HO242; clear HO245; clear HO251; clear HO253; clear BK231; clear BK246; clear HB; have HO239 := n0_; have HO242 := n1_; have HO245 := n2_; have HO251 := n3_; have HO253 := n4_; have HO256 := n5_; have BK231 := n6_; have BK246 := n7_; have HB := n8_; clear n0_ n1_ n2_ n3_ n4_ n5_ n6_ n7_ n8_; (try clear hb); (try clear hb2); (try clear hk); (try clear hi); (try clear ho0))); try go_wp2_with (first | ((with_reducible refine gate_dst (N := 3) rfl ?_); (try (refine gate_guard (by rfl) ?_; dsimp only)); refine box_event ?hg (N := 3) ?hd (cs := #[.int .i64 a0_0, .int .i64 a0_1, .int .i64 a0_2, .int .i64 a0_3, .slice A0_4 l0_4.length c0_4, .bool a0_5]) (t := 24) ?hr ?_; (case hd => rfl); (case hg => rfl); (case hr => first | (go_simp; done) | (go_simp; rfl)); intro gb231 hg w12 hbox hb; have n0_ := Aside0.mk (below_step (by exact wU HB.out) hb); have n1_ := Aside0.mk (hbox); have n2_ := Aside0.mk ((by rw [hg]; exact (below_size (by exact wU HB.out)) : w.heap.size ≤ gb231)); have n3_ := Aside0.mk ((by rw [hg]; exact (below_size (by exact wU HB.out)) : w.heap.size ≤ gb231)); clear HB; have HB := n0_; have BK231 := n1_; have GW231 := n2_; have GE231 := n3_; clear n0_ n1_ n2_ n3_; clear hb hbox hg) | (go_at_call 14; (with_reducible refine (interlocutorlaw6_known.calls k  true _ A4.out).mono ?_); rintro e w13 ⟨rfl, hb⟩; have n0_ := Aside0.mk (blk_below (g := gb231) (o := .cells #[.int .i64 a0_0, .int .i64 a0_1, .int .i64 a0_2, .int .i64 a0_3, .slice A0_4 l0_4.length c0_4, .bool a0_5] 24 (0, 0)) (by (with_reducible repeat (first | refine blk_drewN ?_ _ | refine blk_drew ?_ | refine blk_alloc ?_ _)); exact BK231.out) hb); have n1_ := Aside0.mk (below_step (by exact wS HB.out GE231.out) hb); clear BK231; clear HB; have BK231 := n0_; have HB := n1_; clear n0_ n1_; (try clear hb); (try clear hb2); (try clear hk); (try clear hi); have hcz14_0 : w13.cell? ⟨gb231, 0, none⟩ = some (.int .i64 a0_0) := (blk_cell BK231.out 0).trans rfl; have hcz14_1 : w13.cell? ⟨gb231, 1, none⟩ = some (.int .i64 a0_1) := (blk_cell BK231.out 1).trans rfl; have hcz14_2 : w13.cell? ⟨gb231, 2, none⟩ = some (.int .i64 a0_2) := (blk_cell BK231.out 2).trans rfl; have hcz14_3 : w13.cell? ⟨gb231, 3, none⟩ = some (.int .i64 a0_3) := (blk_cell BK231.out 3).trans rfl; have hcz14_4 : w13.cell? ⟨gb231, 4, none⟩ = some (.slice A0_4 l0_4.length c0_4) := (blk_cell BK231.out 4).trans rfl; have hcz14_5 : w13.cell? ⟨gb231, 5, none⟩ = some (.bool a0_5) := (blk_cell BK231.out 5).trans rfl; have hfz14_0 := blk_frozen BK231.out 0; have hfz14_1 := blk_frozen BK231.out 1; have hfz14_2 := blk_frozen BK231.out 2; have hfz14_3 := blk_frozen BK231.out 3; have hfz14_4 := blk_frozen BK231.out 4; have hfz14_5 := blk_frozen BK231.out 5) | (go_at_call 15; (with_reducible refine (interlocutorlaw5_Shape_Few.calls k a0_0 a0_1 a0_2 a0_3 _ _ l0_4 a0_5 true _ ?side1 ?side2 A6.out).mono ?_); (case side1 => repeat (first | exact (Kd.C_below HR0_4.out HB.out) | (with_reducible refine Kd.C_alloc ?_ _) | (with_reducible refine Kd.C_drewN ?_ _) | (with_reducible refine Kd.C_drew ?_))); (case side2 => exact HC0_4.out); rintro e w15 ⟨rfl, hb⟩; have n0_ := Aside0.mk (blk_below (g := gb231) (o := .cells #[.int .i64 a0_0, .int .i64 a0_1, .int .i64 a0_2, .int .i64 a0_3, .slice A0_4 l0_4.length c0_4, .bool a0_5] 24 (0, 0)) (by (with_reducible repeat (first | refine blk_drewN ?_ _ | refine blk_drew ?_ | refine blk_alloc ?_ _)); exact BK231.out) hb); have n1_ := Aside0.mk (below_step (by exact wS HB.out GE231.out) hb); clear BK231; clear HB; have BK231 := n0_; have HB := n1_; clear n0_ n1_; (try clear hb); (try clear hb2); (try clear hk); (try clear hi); have hcz16_0 : w15.cell? ⟨gb231, 0, none⟩ = some (.int .i64 a0_0) := (blk_cell BK231.out 0).trans rfl; have hcz16_1 : w15.cell? ⟨gb231, 1, none⟩ = some (.int .i64 a0_1) := (blk_cell BK231.out 1).trans rfl; have hcz16_2 : w15.cell? ⟨gb231, 2, none⟩ = some (.int .i64 a0_2) := (blk_cell BK231.out 2).trans rfl; have hcz16_3 : w15.cell? ⟨gb231, 3, none⟩ = some (.int .i64 a0_3) := (blk_cell BK231.out 3).trans rfl; have hcz16_4 : w15.cell? ⟨gb231, 4, none⟩ = some (.slice A0_4 l0_4.length c0_4) := (blk_cell BK231.out 4).trans rfl; have hcz16_5 : w15.cell? ⟨gb231, 5, none⟩ = some (.bool a0_5) := (blk_cell BK231.out 5).trans rfl; have hfz16_0 := blk_frozen BK231.out 0; have hfz16_1 := blk_frozen BK231.out 1; have hfz16_2 := blk_frozen BK231.out 2; have hfz16_3 := blk_frozen BK231.out 3; have hfz16_4 := blk_frozen BK231.out 4; have hfz16_5 := blk_frozen BK231.out 5) | (go_at_call 16; (with_reducible refine (interlocutorlaw6_Locale.calls k a0_0 a0_1 a0_2 a0_3 _ _ l0_4 a0_5 a1 t234 t235 t236 t237 t240 t243 _ ?side1 ?side2 A8.out).mono ?_); (case side1 => repeat (first | exact (Kd.C_below HR0_4.out HB.out) | (with_reducible refine Kd.C_alloc ?_ _) | (with_reducible refine Kd.C_drewN ?_ _) | (with_reducible refine Kd.C_drew ?_))); (case side2 => exact HC0_4.out); rintro e w17 ⟨v238, v241, v244, rfl, ho0, ho1, ho2, hb⟩; have n0_ := Aside0.mk (Kd.V_lower (Kd.V_mono (ok' := fun k_ => k_ ≠ gb231) ho0 (fun k_ hk_ => (Kd.freshB (g := gb231) (o := .cells #[.int .i64 a0_0, .int .i64 a0_1, .int .i64 a0_2, .int .i64 a0_3, .slice A0_4 l0_4.length c0_4, .bool a0_5] 24 (0, 0)) (by (with_reducible repeat (first | refine blk_drewN ?_ _ | refine blk_drew ?_ | refine blk_alloc ?_ _)); exact BK231.out) k_ hk_))) (below_size (by exact wS HB.out GE231.out))); have n1_ := Aside0.mk (Kd.V_lower (Kd.V_mono (ok' := fun k_ => k_ ≠ gb231) ho1 (fun k_ hk_ => (Kd.freshB (g := gb231) (o := .cells #[.int .i64 a0_0, .int .i64 a0_1, .int .i64 a0_2, .int .i64 a0_3, .slice A0_4 l0_4.length c0_4, .bool a0_5] 24 (0, 0)) (by (with_reducible repeat (first | refine blk_drewN ?_ _ | refine blk_drew ?_ | refine blk_alloc ?_ _)); exact BK231.out) k_ hk_))) (below_size (by exact wS HB.out GE231.out))); have n2_ := Aside0.mk (Kd.V_lower (Kd.V_mono (ok' := fun k_ => k_ ≠ gb231) ho2 (fun k_ hk_ => (Kd.freshB (g := gb231) (o := .cells #[.int .i64 a0_0, .int .i64 a0_1, .int .i64 a0_2, .int .i64 a0_3, .slice A0_4 l0_4.length c0_4, .bool a0_5] 24 (0, 0)) (by (with_reducible repeat (first | refine blk_drewN ?_ _ | refine blk_drew ?_ | refine blk_alloc ?_ _)); exact BK231.out) k_ hk_))) (below_size (by exact wS HB.out GE231.out))); have n3_ := Aside0.mk (blk_below (g := gb231) (o := .cells #[.int .i64 a0_0, .int .i64 a0_1, .int .i64 a0_2, .int .i64 a0_3, .slice A0_4 l0_4.length c0_4, .bool a0_5] 24 (0, 0)) (by (with_reducible repeat (first | refine blk_drewN ?_ _ | refine blk_drew ?_ | refine blk_alloc ?_ _)); exact BK231.out) hb); have n4_ := Aside0.mk (below_step (by exact wS HB.out GE231.out) hb); clear BK231; clear HB; have HO239 := n0_; have HO242 := n1_; have HO245 := n2_; have BK231 := n3_; have HB := n4_; clear n0_ n1_ n2_ n3_ n4_; (try clear hb); (try clear hb2); (try clear hk); (try clear hi); (try clear ho0); (try clear ho1); (try clear ho2)) | ((with_reducible refine gate_dst (N := 7) rfl ?_); (try (refine gate_guard (by rfl) ?_; dsimp only)); refine box_event ?hg (N := 7) ?hd (cs := #[.string (⟨#[]⟩ : ByteArray), .int .i64 0, .int .i64 0, .slice none 0 0, .slice none 0 0, .slice none 0 0]) (t := 32) ?hr ?_; (case hd => rfl); (case hg => rfl); (case hr => first | (go_simp; done) | (go_simp; rfl)); intro gb246 hg w18 hbox hb; have n0_ := Aside0.mk (Kd.V_below (Kd.V_elderB (by exact vU HO239.out) gb246 (Nat.le_of_eq hg.symm)) hb); have n1_ := Aside0.mk (Kd.V_below (Kd.V_elderB (by exact vU HO242.out) gb246 (Nat.le_of_eq hg.symm)) hb); have n2_ := Aside0.mk (Kd.V_below (Kd.V_elderB (by exact vU HO245.out) gb246 (Nat.le_of_eq hg.symm)) hb); have n3_ := Aside0.mk (blk_below (g := gb231) (o := .cells #[.int .i64 a0_0, .int .i64 a0_1, .int .i64 a0_2, .int .i64 a0_3, .slice A0_4 l0_4.length c0_4, .bool a0_5] 24 (0, 0)) (by (with_reducible repeat (first | refine blk_drewN ?_ _ | refine blk_drew ?_ | refine blk_alloc ?_ _)); exact BK231.out) hb); have n4_ := Aside0.mk (below_step (by exact wS HB.out GE231.out) hb); have n5_ := Aside0.mk (hbox); have n6_ := Aside0.mk ((by rw [hg]; exact (below_size (by exact wS HB.out GE231.out)) : w.heap.size ≤ gb246)); have n7_ := Aside0.mk ((by rw [hg]; exact (below_size (by exact wS HB.out GE231.out)) : w.heap.size ≤ gb246)); have n8_ := Aside0.mk ((by rw [hg]; exact Nat.ne_of_lt (blk_lt (g := gb231) (o := .cells #[.int .i64 a0_0, .int .i64 a0_1, .int .i64 a0_2, .int .i64 a0_3, .slice A0_4 l0_4.length c0_4, .bool a0_5] 24 (0, 0)) (by (with_reducible repeat (first | refine blk_drewN ?_ _ | refine blk_drew ?_ | refine blk_alloc ?_ _)); exact BK231.out)) : gb231 ≠ gb246)); have n9_ := Aside0.mk ((by rw [hg]; exact Nat.ne_of_gt (blk_lt (g := gb231) (o := .cells #[.int .i64 a0_0, .int .i64 a0_1, .int .i64 a0_2, .int .i64 a0_3, .slice A0_4 l0_4.length c0_4, .bool a0_5] 24 (0, 0)) (by (with_reducible repeat (first | refine blk_drewN ?_ _ | refine blk_drew ?_ | refine blk_alloc ?_ _)); exact BK231.out)) : gb246 ≠ gb231)); clear HO239; clear HO242; clear HO245; clear BK231; clear HB; have HO239 := n0_; have HO242 := n1_; have HO245 := n2_; have BK231 := n3_; have HB := n4_; have BK246 := n5_; have GW246 := n6_; have GE246 := n7_; have NB231_246 := n8_; have NB246_231 := n9_; clear n0_ n1_ n2_ n3_ n4_ n5_ n6_ n7_ n8_ n9_; clear hb hbox hg; have hnb19 := NB246_231.out; have hnc19 := NB231_246.out; have hcz20_0 : w18.cell? ⟨gb246, 0, none⟩ = some (.string (⟨#[]⟩ : ByteArray)) := (blk_cell BK246.out 0).trans rfl; have hcz20_1 : w18.cell? ⟨gb246, 1, none⟩ = some (.int .i64 0) := (blk_cell BK246.out 1).trans rfl; have hcz20_2 : w18.cell? ⟨gb246, 2, none⟩ = some (.int .i64 0) := (blk_cell BK246.out 2).trans rfl; have hcz20_3 : w18.cell? ⟨gb246, 3, none⟩ = some (.slice none 0 0) := (blk_cell BK246.out 3).trans rfl; have hcz20_4 : w18.cell? ⟨gb246, 4, none⟩ = some (.slice none 0 0) := (blk_cell BK246.out 4).trans rfl; have hcz20_5 : w18.cell? ⟨gb246, 5, none⟩ = some (.slice none 0 0) := (blk_cell BK246.out 5).trans rfl; have hfz20_0 := blk_frozen BK246.out 0; have hfz20_1 := blk_frozen BK246.out 1; have hfz20_2 := blk_frozen BK246.out 2; have hfz20_3 := blk_frozen BK246.out 3; have hfz20_4 := blk_frozen BK246.out 4; have hfz20_5 := blk_frozen BK246.out 5; obtain ⟨Ao21, co21, eo21⟩ := Kd.V_slice HO239.out; subst eo21; obtain ⟨Ao22, co22, eo22⟩ := Kd.V_slice HO242.out; subst eo22; obtain ⟨Ao23, co23, eo23⟩ := Kd.V_slice HO245.out; subst eo23) | (go_at_call 17; (with_reducible refine (interlocutorlaw6_Text.calls k _ _ l2 12 t247 _ ?side1 ?side2 A9.out).mono ?_); (case side1 => exact Kd.C_below HR2.out (by exact wZ HB.out GE231.out GE246.out)); (case side2 => exact HC2.out); rintro e w24 ⟨rfl, hb⟩; have n0_ := Aside0.mk (Kd.V_below (by exact vU ((Kd.V_mono (Kd.V_far (p := ⟨gb246, 5, none⟩) (Kd.V_far (p := ⟨gb246, 4, none⟩) (Kd.V_far (p := ⟨gb246, 3, none⟩) (Kd.V_far (p := ⟨gb246, 2, none⟩) (Kd.V_far (p := ⟨gb246, 1, none⟩) (Kd.V_far (p := ⟨gb246, 0, none⟩) (Kd.V_mono HO239.out (fun k_ hk => (⟨hk, hk.2⟩ : _ ∧ k_ ≠ gb246))) (fun _ hk => hk.2) (.string t234)) (fun _ hk => hk.2) (.int .i64 t235)) (fun _ hk => hk.2) (.int .i64 t236)) (fun _ hk => hk.2) (.slice Ao21 t237.length co21)) (fun _ hk => hk.2) (.slice Ao22 t240.length co22)) (fun _ hk => hk.2) (.slice Ao23 t243.length co23)) (fun _ h_ => h_.1)))) hb); have n1_ := Aside0.mk (Kd.V_below (by exact vU ((Kd.V_mono (Kd.V_far (p := ⟨gb246, 5, none⟩) (Kd.V_far (p := ⟨gb246, 4, none⟩) (Kd.V_far (p := ⟨gb246, 3, none⟩) (Kd.V_far (p := ⟨gb246, 2, none⟩) (Kd.V_far (p := ⟨gb246, 1, none⟩) (Kd.V_far (p := ⟨gb246, 0, none⟩) (Kd.V_mono HO242.out (fun k_ hk => (⟨hk, hk.2⟩ : _ ∧ k_ ≠ gb246))) (fun _ hk => hk.2) (.string t234)) (fun _ hk => hk.2) (.int .i64 t235)) (fun _ hk => hk.2) (.int .i64 t236)) (fun _ hk => hk.2) (.slice Ao21 t237.length co21)) (fun _ hk => hk.2) (.slice Ao22 t240.length co22)) (fun _ hk => hk.2) (.slice Ao23 t243.length co23)) (fun _ h_ => h_.1)))) hb); have n2_ := Aside0.mk (Kd.V_below (by exact vU ((Kd.V_mono (Kd.V_far (p := ⟨gb246, 5, none⟩) (Kd.V_far (p := ⟨gb246, 4, none⟩) (Kd.V_far (p := ⟨gb246, 3, none⟩) (Kd.V_far (p := ⟨gb246, 2, none⟩) (Kd.V_far (p := ⟨gb246, 1, none⟩) (Kd.V_far (p := ⟨gb246, 0, none⟩) (Kd.V_mono HO245.out (fun k_ hk => (⟨hk, hk.2⟩ : _ ∧ k_ ≠ gb246))) (fun _ hk => hk.2) (.string t234)) (fun _ hk => hk.2) (.int .i64 t235)) (fun _ hk => hk.2) (.int .i64 t236)) (fun _ hk => hk.2) (.slice Ao21 t237.length co21)) (fun _ hk => hk.2) (.slice Ao22 t240.length co22)) (fun _ hk => hk.2) (.slice Ao23 t243.length co23)) (fun _ h_ => h_.1)))) hb); have n3_ := Aside0.mk (blk_below (g := gb231) (o := .cells #[.int .i64 a0_0, .int .i64 a0_1, .int .i64 a0_2, .int .i64 a0_3, .slice A0_4 l0_4.length c0_4, .bool a0_5] 24 (0, 0)) (by (with_reducible repeat (first | refine blk_drewN ?_ _ | refine blk_drew ?_ | refine blk_alloc ?_ _)); refine blk_far ?_ NB231_246.out _; (with_reducible repeat (first | refine blk_drewN ?_ _ | refine blk_drew ?_ | refine blk_alloc ?_ _)); refine blk_far ?_ NB231_246.out _; (with_reducible repeat (first | refine blk_drewN ?_ _ | refine blk_drew ?_ | refine blk_alloc ?_ _)); refine blk_far ?_ NB231_246.out _; (with_reducible repeat (first | refine blk_drewN ?_ _ | refine blk_drew ?_ | refine blk_alloc ?_ _)); refine blk_far ?_ NB231_246.out _; (with_reducible repeat (first | refine blk_drewN ?_ _ | refine blk_drew ?_ | refine blk_alloc ?_ _)); refine blk_far ?_ NB231_246.out _; (with_reducible repeat (first | refine blk_drewN ?_ _ | refine blk_drew ?_ | refine blk_alloc ?_ _)); refine blk_far ?_ NB231_246.out _; (with_reducible repeat (first | refine blk_drewN ?_ _ | refine blk_drew ?_ | refine blk_alloc ?_ _)); exact BK231.out) hb); have n4_ := Aside0.mk (blk_below (g := gb246) (o := .cells #[.string t234, .int .i64 t235, .int .i64 t236, .slice Ao21 t237.length co21, .slice Ao22 t240.length co22, .slice Ao23 t243.length co23] 32 (0, 0)) (by (with_reducible repeat (first | refine blk_drewN ?_ _ | refine blk_drew ?_ | refine blk_alloc ?_ _)); refine blk_put (cs := #[.string t234, .int .i64 t235, .int .i64 t236, .slice Ao21 t237.length co21, .slice Ao22 t240.length co22, .slice none 0 0]) ?_ 5 _ rfl; (with_reducible repeat (first | refine blk_drewN ?_ _ | refine blk_drew ?_ | refine blk_alloc ?_ _)); refine blk_put (cs := #[.string t234, .int .i64 t235, .int .i64 t236, .slice Ao21 t237.length co21, .slice none 0 0, .slice none 0 0]) ?_ 4 _ rfl; (with_reducible repeat (first | refine blk_drewN ?_ _ | refine blk_drew ?_ | refine blk_alloc ?_ _)); refine blk_put (cs := #[.string t234, .int .i64 t235, .int .i64 t236, .slice none 0 0, .slice none 0 0, .slice none 0 0]) ?_ 3 _ rfl; (with_reducible repeat (first | refine blk_drewN ?_ _ | refine blk_drew ?_ | refine blk_alloc ?_ _)); refine blk_put (cs := #[.string t234, .int .i64 t235, .int .i64 0, .slice none 0 0, .slice none 0 0, .slice none 0 0]) ?_ 2 _ rfl; (with_reducible repeat (first | refine blk_drewN ?_ _ | refine blk_drew ?_ | refine blk_alloc ?_ _)); refine blk_put (cs := #[.string t234, .int .i64 0, .int .i64 0, .slice none 0 0, .slice none 0 0, .slice none 0 0]) ?_ 1 _ rfl; (with_reducible repeat (first | refine blk_drewN ?_ _ | refine blk_drew ?_ | refine blk_alloc ?_ _)); refine blk_put (cs := #[.string (⟨#[]⟩ : ByteArray), .int .i64 0, .int .i64 0, .slice none 0 0, .slice none 0 0, .slice none 0 0]) ?_ 0 _ rfl; (with_reducible repeat (first | refine blk_drewN ?_ _ | refine blk_drew ?_ | refine blk_alloc ?_ _)); exact BK246.out) hb); have n5_ := Aside0.mk (below_step (by exact wZ HB.out GE231.out GE246.out) hb); clear HO239; clear HO242; clear HO245; clear BK231; clear BK246; clear HB; have HO239 := n0_; have HO242 := n1_; have HO245 := n2_; have BK231 := n3_; have BK246 := n4_; have HB := n5_; clear n0_ n1_ n2_ n3_ n4_ n5_; (try clear hb); (try clear hb2); (try clear hk); (try clear hi)) | (go_at_call 19; (with_reducible refine (interlocutorref3_Fold.calls k t247 t248 t249 _ A10.out).mono ?_); rintro e w25 ⟨v250, v252, rfl, ho0, ho1, hb⟩; have n0_ := Aside0.mk (Kd.V_mono (Kd.V_told (Kd.V_told (Kd.V_old (by exact vU HO239.out) hb) (Kd.R_base ho0)) (Kd.R_base ho1)) (fun _ h_ => h_.1)); have n1_ := Aside0.mk (Kd.V_mono (Kd.V_told (Kd.V_told (Kd.V_old (by exact vU HO242.out) hb) (Kd.R_base ho0)) (Kd.R_base ho1)) (fun _ h_ => h_.1)); have n2_ := Aside0.mk (Kd.V_mono (Kd.V_told (Kd.V_told (Kd.V_old (by exact vU HO245.out) hb) (Kd.R_base ho0)) (Kd.R_base ho1)) (fun _ h_ => h_.1)); have n3_ := Aside0.mk (Kd.R_lower ho0 (below_size (by exact wZ HB.out GE231.out GE246.out))); have n4_ := Aside0.mk (Kd.R_lower ho1 (below_size (by exact wZ HB.out GE231.out GE246.out))); have n5_ := Aside0.mk (blk_below (g := gb231) (o := .cells #[.int .i64 a0_0, .int .i64 a0_1, .int .i64 a0_2, .int .i64 a0_3, .slice A0_4 l0_4.length c0_4, .bool a0_5] 24 (0, 0)) (by (with_reducible repeat (first | refine blk_drewN ?_ _ | refine blk_drew ?_ | refine blk_alloc ?_ _)); exact BK231.out) hb); have n6_ := Aside0.mk (blk_below (g := gb246) (o := .cells #[.string t234, .int .i64 t235, .int .i64 t236, .slice Ao21 t237.length co21, .slice Ao22 t240.length co22, .slice Ao23 t243.length co23] 32 (0, 0)) (by (with_reducible repeat (first | refine blk_drewN ?_ _ | refine blk_drew ?_ | refine blk_alloc ?_ _)); exact BK246.out) hb); have n7_ := Aside0.mk (below_step (by exact wZ HB.out GE231.out GE246.out) hb); clear HO239; clear HO242; clear HO245; clear BK231; clear BK246; clear HB; have HO239 := n0_; have HO242 := n1_; have HO245 := n2_; have HO251 := n3_; have HO253 := n4_; have BK231 := n5_; have BK246 := n6_; have HB := n7_; clear n0_ n1_ n2_ n3_ n4_ n5_ n6_ n7_; (try clear hb); (try clear hb2); (try clear hk); (try clear hi); (try clear ho0); (try clear ho1); have hcz26_0 : w25.cell? ⟨gb246, 0, none⟩ = some (.string t234) := (blk_cell BK246.out 0).trans rfl; have hcz26_1 : w25.cell? ⟨gb246, 1, none⟩ = some (.int .i64 t235) := (blk_cell BK246.out 1).trans rfl; have hcz26_2 : w25.cell? ⟨gb246, 2, none⟩ = some (.int .i64 t236) := (blk_cell BK246.out 2).trans rfl; have hcz26_3 : w25.cell? ⟨gb246, 3, none⟩ = some (.slice Ao21 t237.length co21) := (blk_cell BK246.out 3).trans rfl; have hcz26_4 : w25.cell? ⟨gb246, 4, none⟩ = some (.slice Ao22 t240.length co22) := (blk_cell BK246.out 4).trans rfl; have hcz26_5 : w25.cell? ⟨gb246, 5, none⟩ = some (.slice Ao23 t243.length co23) := (blk_cell BK246.out 5).trans rfl; have hfz26_0 := blk_frozen BK246.out 0; have hfz26_1 := blk_frozen BK246.out 1; have hfz26_2 := blk_frozen BK246.out 2; have hfz26_3 := blk_frozen BK246.out 3; have hfz26_4 := blk_frozen BK246.out 4; have hfz26_5 := blk_frozen BK246.out 5; obtain ⟨Ao27, co27, eo27⟩ := Kd.R_slice HO251.out; subst eo27) | (go_at_call 20; (with_reducible refine (lex_Tokens.calls t234 t235 t236 _ _ t237 _ _ t240 _ _ t243 _ _ t248 t254 _ ?side1 ?side2 ?side3 ?side4 ?side5 ?side6 ?side7 ?side8 A11.out).mono ?_); (case side1 => repeat (first | exact (Kd.V_reads' HO239.out).2.2 | (with_reducible refine Kd.C_alloc ?_ _) | (with_reducible refine Kd.C_drewN ?_ _) | (with_reducible refine Kd.C_drew ?_))); (case side2 => exact (Kd.V_reads' HO239.out).2.1); (case side3 => repeat (first | exact (Kd.V_reads' HO242.out).2.2 | (with_reducible refine Kd.C_alloc ?_ _) | (with_reducible refine Kd.C_drewN ?_ _) | (with_reducible refine Kd.C_drew ?_))); (case side4 => exact (Kd.V_reads' HO242.out).2.1); (case side5 => repeat (first | exact (Kd.V_reads' HO245.out).2.2 | (with_reducible refine Kd.C_alloc ?_ _) | (with_reducible refine Kd.C_drewN ?_ _) | (with_reducible refine Kd.C_drew ?_))); (case side6 => exact (Kd.V_reads' HO245.out).2.1); (case side7 => repeat (first | exact (Kd.R_reads' HO251.out).2.2 | (with_reducible refine Kd.C_alloc ?_ _) | (with_reducible refine Kd.C_drewN ?_ _) | (with_reducible refine Kd.C_drew ?_))); (case side8 => exact (Kd.R_reads' HO251.out).2.1); rintro e w28 ⟨v255, rfl, ho0, hb⟩; have n0_ := Aside0.mk (Kd.V_elder' (by exact vU HO239.out) (Kd.R_base ho0) hb); have n1_ := Aside0.mk (Kd.V_elder' (by exact vU HO242.out) (Kd.R_base ho0) hb); have n2_ := Aside0.mk (Kd.V_elder' (by exact vU HO245.out) (Kd.R_base ho0) hb); have n3_ := Aside0.mk (Kd.R_below (by exact rU HO251.out) hb); have n4_ := Aside0.mk (Kd.R_below (by exact rU HO253.out) hb); have n5_ := Aside0.mk (Kd.R_lower ho0 (below_size (by exact wZ HB.out GE231.out GE246.out))); have n6_ := Aside0.mk (blk_below (g := gb231) (o := .cells #[.int .i64 a0_0, .int .i64 a0_1, .int .i64 a0_2, .int .i64 a0_3, .slice A0_4 l0_4.length c0_4, .bool a0_5] 24 (0, 0)) (by (with_reducible repeat (first | refine blk_drewN ?_ _ | refine blk_drew ?_ | refine blk_alloc ?_ _)); exact BK231.out) hb); have n7_ := Aside0.mk (blk_below (g := gb246) (o := .cells #[.string t234, .int .i64 t235, .int .i64 t236, .slice Ao21 t237.length co21, .slice Ao22 t240.length co22, .slice Ao23 t243.length co23] 32 (0, 0)) (by (with_reducible repeat (first | refine blk_drewN ?_ _ | refine blk_drew ?_ | refine blk_alloc ?_ _)); exact BK246.out) hb); have n8_ := Aside0.mk (below_step (by exact wZ HB.out GE231.out GE246.out) hb); clear HO239; clear HO242; clear HO245; clear HO251; clear HO253; clear BK231; clear BK246; clear HB; have HO239 := n0_; have HO242 := n1_; have HO245 := n2_; have HO251 := n3_; have HO253 := n4_; have HO256 := n5_; have BK231 := n6_; have BK246 := n7_; have HB := n8_; clear n0_ n1_ n2_ n3_ n4_ n5_ n6_ n7_ n8_; (try clear hb); (try clear hb2); (try clear hk); (try clear hi); (try clear ho0))))
  go_loopg [11] k (fun kq v11 w' => ∃ (x11_1 : Int), v11 = .int .i64 x11_1 ∧ Aside0 (interlocutorlaw6_LexPlaces.l0 kq t248 t254 x11_1 = some r) ∧ Aside0 (kq ≤ k) ∧ Aside0 (Kd.R (Kd.int .i64) 3 w' w.heap.size (fun _ => True) (.slice Ao27 t248.length co27) t248) ∧ Aside0 (Kd.R k47 47 w' w.heap.size (fun _ => True) v255 t254) ∧ Aside0 (Kd.V k53 53 w' w.heap.size (fun k_ => some k_ ≠ ((.slice Ao27 t248.length co27) : Value).ownBlock ∧ some k_ ≠ (v255 : Value).ownBlock ∧ k_ ≠ gb231 ∧ k_ ≠ gb246) (.slice Ao21 t237.length co21) t237) ∧ Aside0 (Kd.V k108 108 w' w.heap.size (fun k_ => some k_ ≠ ((.slice Ao27 t248.length co27) : Value).ownBlock ∧ some k_ ≠ (v255 : Value).ownBlock ∧ k_ ≠ gb231 ∧ k_ ≠ gb246) (.slice Ao22 t240.length co22) t240) ∧ Aside0 (Kd.V k138 138 w' w.heap.size (fun k_ => some k_ ≠ ((.slice Ao27 t248.length co27) : Value).ownBlock ∧ some k_ ≠ (v255 : Value).ownBlock ∧ k_ ≠ gb231 ∧ k_ ≠ gb246) (.slice Ao23 t243.length co23) t243) ∧ Aside0 (w'.heap[gb231]? = some (.cells #[.int .i64 a0_0, .int .i64 a0_1, .int .i64 a0_2, .int .i64 a0_3, (.slice A0_4 l0_4.length c0_4), .bool a0_5] 24 (0, 0))) ∧ Aside0 (w'.heap[gb246]? = some (.cells #[.string t234, .int .i64 t235, .int .i64 t236, (.slice Ao21 t237.length co21), (.slice Ao22 t240.length co22), (.slice Ao23 t243.length co23)] 32 (0, 0))) ∧ Aside0 (Below w.heap.size w w'))
  case atStart => exact ⟨(0), (by first | rfl | (simp; done) | (simp [*]; done)), H', ⟨Nat.le_refl _⟩, ⟨by exact rU (Kd.R_mono HO251.out (fun _ hk => trivial))⟩, ⟨by exact rU HO256.out⟩, ⟨by exact vU (Kd.V_mono HO239.out (fun _ hk => ⟨hk.1.1.2, ⟨hk.2, ⟨hk.1.1.1.1, hk.1.1.1.2⟩⟩⟩))⟩, ⟨by exact vU (Kd.V_mono HO242.out (fun _ hk => ⟨hk.1.1.2, ⟨hk.2, ⟨hk.1.1.1.1, hk.1.1.1.2⟩⟩⟩))⟩, ⟨by exact vU (Kd.V_mono HO245.out (fun _ hk => ⟨hk.1.1.2, ⟨hk.2, ⟨hk.1.1.1.1, hk.1.1.1.2⟩⟩⟩))⟩, ⟨by (with_reducible repeat (first | refine blk_drewN ?_ _ | refine blk_drew ?_ | refine blk_alloc ?_ _)); exact BK231.out⟩, ⟨by (with_reducible repeat (first | refine blk_drewN ?_ _ | refine blk_drew ?_ | refine blk_alloc ?_ _)); exact BK246.out⟩, ⟨by exact wZ HB.out GE231.out GE246.out⟩⟩
  case round =>
   clear H'
   try clear c1
   try clear c2
   try clear p2
   try clear c4
   try clear c5
   try clear c7
   try clear c19
   try clear hcz14_0
   try clear hcz14_1
   try clear hcz14_2
   try clear hcz14_3
   try clear hcz14_4
   try clear hcz14_5
   try clear hcz16_0
   try clear hcz16_1
   try clear hcz16_2
   try clear hcz16_3
   try clear hcz16_4
   try clear hcz16_5
   try clear hcz20_0
   try clear hcz20_1
   try clear hcz20_2
   try clear hcz20_3
   try clear hcz20_4
   try clear hcz20_5
   try clear hcz26_0
   try clear hcz26_1
   try clear hcz26_2
   try clear hcz26_3
   try clear hcz26_4
   try clear hcz26_5
   try clear hfz14_0
   try clear hfz14_1
   try clear hfz14_2
   try clear hfz14_3
   try clear hfz14_4
   try clear hfz14_5
   try clear hfz16_0
   try clear hfz16_1
   try clear hfz16_2
   try clear hfz16_3
   try clear hfz16_4
   try clear hfz16_5
   try clear hfz20_0
   try clear hfz20_1
   try clear hfz20_2
   try clear hfz20_3
   try clear hfz20_4
   try clear hfz20_5
   try clear hfz26_0
   try clear hfz26_1
   try clear hfz26_2
   try clear hfz26_3
   try clear hfz26_4
   try clear hfz26_5
   obtain ⟨x11_1, rfl, HA, HK1, HO_8, HO_10, HO_247003, HO_247004, HO_247005, BK231, BK246, HB⟩ := hrel
   cases gk with
   | zero => exact absurd HA.out (by simp [interlocutorlaw6_LexPlaces.l0])
   | succ k1 =>
    have H := HA.out
    clear HA
    simp only [interlocutorlaw6_LexPlaces.l0] at H
    by_cases c29 : x11_1 < (t254.length : Int)
    rotate_left
    · rw [if_neg c29] at H
      have c29b0 : decide (x11_1 < (t254.length : Int)) = false := decide_eq_false c29
      clear c29
      obtain rfl := Option.some.inj H
      obtain ⟨Ao146, co146, eo146⟩ := Kd.R_slice HO_10.out
      subst eo146
      go_wp2
      repeat (go_quiet (fail); try go_wp2)
      go_ret
      exact ⟨by first | rfl | (simp [errW_none, errW_some] <;> rfl) | (simp [*, errW_none, errW_some] <;> rfl), by exact wZ HB.out GE231.out GE246.out⟩
    rw [if_pos c29] at H
    have c29b0 : decide (x11_1 < (t254.length : Int)) = true := decide_eq_true c29
    clear c29
    by_cases c30 : 0 ≤ x11_1
    rotate_left
    · rw [if_neg c30] at H
      exact absurd H (by simp)
    rw [if_pos c30] at H
    have c30b0 : decide (0 ≤ x11_1) = true := decide_eq_true c30
    clear c30
    have HC31 := Aside0.mk H
    clear H
    obtain ⟨Ao32, co32, eo32⟩ := Kd.R_slice HO_10.out
    subst eo32
    have p257 : 0 ≤ (x11_1 : Int) := of_decide_eq_true (by first | (with_reducible assumption) | assumption)
    have q257 : x11_1 < (t254.length : Int) := of_decide_eq_true (by first | (with_reducible assumption) | assumption)
    obtain ⟨ad257, e257, hx257_0, hx257_1, hx257_2, hx257_3, hx257_4⟩ := at_T47 (Kd.R_reads' HO_10.out).2.2 x11_1 p257 q257
    cases e257
    replace p257 := eq_true p257
    replace q257 := eq_true q257
    go_upto_region 12 with (first | ((with_reducible refine gate_dst (N := 12) rfl ?_); (try (refine gate_guard (by rfl) ?_; dsimp only)); refine box_event ?hg (N := 12) ?hd (cs := #[.int .i64 0, .int .i64 0, .int .i64 0, .int .i64 0, .int .i64 0]) (t := 47) ?hr ?_; (case hd => rfl); (case hg => rfl); (case hr => first | (go_simp; done) | (go_simp; rfl)); intro gb258 hg w33 hbox hb; have n0_ := Aside0.mk (Kd.R_below (by exact rU HO_8.out) hb); have n1_ := Aside0.mk (Kd.R_below (Kd.R_elderB (by exact rU HO_10.out) gb258 (Nat.le_of_eq hg.symm)) hb); have n2_ := Aside0.mk (Kd.V_below (Kd.V_elderB (by exact vU HO_247003.out) gb258 (Nat.le_of_eq hg.symm)) hb); have n3_ := Aside0.mk (Kd.V_below (Kd.V_elderB (by exact vU HO_247004.out) gb258 (Nat.le_of_eq hg.symm)) hb); have n4_ := Aside0.mk (Kd.V_below (Kd.V_elderB (by exact vU HO_247005.out) gb258 (Nat.le_of_eq hg.symm)) hb); have n5_ := Aside0.mk (blk_below (g := gb231) (o := .cells #[.int .i64 a0_0, .int .i64 a0_1, .int .i64 a0_2, .int .i64 a0_3, .slice A0_4 l0_4.length c0_4, .bool a0_5] 24 (0, 0)) (by (with_reducible repeat (first | refine blk_drewN ?_ _ | refine blk_drew ?_ | refine blk_alloc ?_ _)); exact BK231.out) hb); have n6_ := Aside0.mk (blk_below (g := gb246) (o := .cells #[.string t234, .int .i64 t235, .int .i64 t236, .slice Ao21 t237.length co21, .slice Ao22 t240.length co22, .slice Ao23 t243.length co23] 32 (0, 0)) (by (with_reducible repeat (first | refine blk_drewN ?_ _ | refine blk_drew ?_ | refine blk_alloc ?_ _)); exact BK246.out) hb); have n7_ := Aside0.mk (below_step (by exact wZ HB.out GE231.out GE246.out) hb); have n8_ := Aside0.mk (hbox); have n9_ := Aside0.mk ((by rw [hg]; exact (below_size (by exact wZ HB.out GE231.out GE246.out)) : w.heap.size ≤ gb258)); have n10_ := Aside0.mk ((by rw [hg]; exact (below_size (by exact wZ HB.out GE231.out GE246.out)) : w.heap.size ≤ gb258)); have n11_ := Aside0.mk ((by rw [hg]; exact Nat.ne_of_lt (blk_lt (g := gb231) (o := .cells #[.int .i64 a0_0, .int .i64 a0_1, .int .i64 a0_2, .int .i64 a0_3, .slice A0_4 l0_4.length c0_4, .bool a0_5] 24 (0, 0)) (by (with_reducible repeat (first | refine blk_drewN ?_ _ | refine blk_drew ?_ | refine blk_alloc ?_ _)); exact BK231.out)) : gb231 ≠ gb258)); have n12_ := Aside0.mk ((by rw [hg]; exact Nat.ne_of_gt (blk_lt (g := gb231) (o := .cells #[.int .i64 a0_0, .int .i64 a0_1, .int .i64 a0_2, .int .i64 a0_3, .slice A0_4 l0_4.length c0_4, .bool a0_5] 24 (0, 0)) (by (with_reducible repeat (first | refine blk_drewN ?_ _ | refine blk_drew ?_ | refine blk_alloc ?_ _)); exact BK231.out)) : gb258 ≠ gb231)); have n13_ := Aside0.mk ((by rw [hg]; exact Nat.ne_of_lt (blk_lt (g := gb246) (o := .cells #[.string t234, .int .i64 t235, .int .i64 t236, .slice Ao21 t237.length co21, .slice Ao22 t240.length co22, .slice Ao23 t243.length co23] 32 (0, 0)) (by (with_reducible repeat (first | refine blk_drewN ?_ _ | refine blk_drew ?_ | refine blk_alloc ?_ _)); exact BK246.out)) : gb246 ≠ gb258)); have n14_ := Aside0.mk ((by rw [hg]; exact Nat.ne_of_gt (blk_lt (g := gb246) (o := .cells #[.string t234, .int .i64 t235, .int .i64 t236, .slice Ao21 t237.length co21, .slice Ao22 t240.length co22, .slice Ao23 t243.length co23] 32 (0, 0)) (by (with_reducible repeat (first | refine blk_drewN ?_ _ | refine blk_drew ?_ | refine blk_alloc ?_ _)); exact BK246.out)) : gb258 ≠ gb246)); clear HO_8; clear HO_10; clear HO_247003; clear HO_247004; clear HO_247005; clear BK231; clear BK246; clear HB; have HO_8 := n0_; have HO_10 := n1_; have HO_247003 := n2_; have HO_247004 := n3_; have HO_247005 := n4_; have BK231 := n5_; have BK246 := n6_; have HB := n7_; have BK258 := n8_; have GW258 := n9_; have GE258 := n10_; have NB231_258 := n11_; have NB258_231 := n12_; have NB246_258 := n13_; have NB258_246 := n14_; clear n0_ n1_ n2_ n3_ n4_ n5_ n6_ n7_ n8_ n9_ n10_ n11_ n12_ n13_ n14_; clear hb hbox hg; have hnb34 := NB258_231.out; have hnc34 := NB231_258.out; have hnb35 := NB258_246.out; have hnc35 := NB246_258.out; have hcz36_0 : w33.cell? ⟨gb258, 0, none⟩ = some (.int .i64 0) := (blk_cell BK258.out 0).trans rfl; have hcz36_1 : w33.cell? ⟨gb258, 1, none⟩ = some (.int .i64 0) := (blk_cell BK258.out 1).trans rfl; have hcz36_2 : w33.cell? ⟨gb258, 2, none⟩ = some (.int .i64 0) := (blk_cell BK258.out 2).trans rfl; have hcz36_3 : w33.cell? ⟨gb258, 3, none⟩ = some (.int .i64 0) := (blk_cell BK258.out 3).trans rfl; have hcz36_4 : w33.cell? ⟨gb258, 4, none⟩ = some (.int .i64 0) := (blk_cell BK258.out 4).trans rfl; have hfz36_0 := blk_frozen BK258.out 0; have hfz36_1 := blk_frozen BK258.out 1; have hfz36_2 := blk_frozen BK258.out 2; have hfz36_3 := blk_frozen BK258.out 3; have hfz36_4 := blk_frozen BK258.out 4))
    repeat (go_quiet (first | ((with_reducible refine gate_dst (N := 12) rfl ?_); (try (refine gate_guard (by rfl) ?_; dsimp only)); refine box_event ?hg (N := 12) ?hd (cs := #[.int .i64 0, .int .i64 0, .int .i64 0, .int .i64 0, .int .i64 0]) (t := 47) ?hr ?_; (case hd => rfl); (case hg => rfl); (case hr => first | (go_simp; done) | (go_simp; rfl)); intro gb258 hg w33 hbox hb; have n0_ := Aside0.mk (Kd.R_below (by exact rU HO_8.out) hb); have n1_ := Aside0.mk (Kd.R_below (Kd.R_elderB (by exact rU HO_10.out) gb258 (Nat.le_of_eq hg.symm)) hb); have n2_ := Aside0.mk (Kd.V_below (Kd.V_elderB (by exact vU HO_247003.out) gb258 (Nat.le_of_eq hg.symm)) hb); have n3_ := Aside0.mk (Kd.V_below (Kd.V_elderB (by exact vU HO_247004.out) gb258 (Nat.le_of_eq hg.symm)) hb); have n4_ := Aside0.mk (Kd.V_below (Kd.V_elderB (by exact vU HO_247005.out) gb258 (Nat.le_of_eq hg.symm)) hb); have n5_ := Aside0.mk (blk_below (g := gb231) (o := .cells #[.int .i64 a0_0, .int .i64 a0_1, .int .i64 a0_2, .int .i64 a0_3, .slice A0_4 l0_4.length c0_4, .bool a0_5] 24 (0, 0)) (by (with_reducible repeat (first | refine blk_drewN ?_ _ | refine blk_drew ?_ | refine blk_alloc ?_ _)); exact BK231.out) hb); have n6_ := Aside0.mk (blk_below (g := gb246) (o := .cells #[.string t234, .int .i64 t235, .int .i64 t236, .slice Ao21 t237.length co21, .slice Ao22 t240.length co22, .slice Ao23 t243.length co23] 32 (0, 0)) (by (with_reducible repeat (first | refine blk_drewN ?_ _ | refine blk_drew ?_ | refine blk_alloc ?_ _)); exact BK246.out) hb); have n7_ := Aside0.mk (below_step (by exact wZ HB.out GE231.out GE246.out) hb); have n8_ := Aside0.mk (hbox); have n9_ := Aside0.mk ((by rw [hg]; exact (below_size (by exact wZ HB.out GE231.out GE246.out)) : w.heap.size ≤ gb258)); have n10_ := Aside0.mk ((by rw [hg]; exact (below_size (by exact wZ HB.out GE231.out GE246.out)) : w.heap.size ≤ gb258)); have n11_ := Aside0.mk ((by rw [hg]; exact Nat.ne_of_lt (blk_lt (g := gb231) (o := .cells #[.int .i64 a0_0, .int .i64 a0_1, .int .i64 a0_2, .int .i64 a0_3, .slice A0_4 l0_4.length c0_4, .bool a0_5] 24 (0, 0)) (by (with_reducible repeat (first | refine blk_drewN ?_ _ | refine blk_drew ?_ | refine blk_alloc ?_ _)); exact BK231.out)) : gb231 ≠ gb258)); have n12_ := Aside0.mk ((by rw [hg]; exact Nat.ne_of_gt (blk_lt (g := gb231) (o := .cells #[.int .i64 a0_0, .int .i64 a0_1, .int .i64 a0_2, .int .i64 a0_3, .slice A0_4 l0_4.length c0_4, .bool a0_5] 24 (0, 0)) (by (with_reducible repeat (first | refine blk_drewN ?_ _ | refine blk_drew ?_ | refine blk_alloc ?_ _)); exact BK231.out)) : gb258 ≠ gb231)); have n13_ := Aside0.mk ((by rw [hg]; exact Nat.ne_of_lt (blk_lt (g := gb246) (o := .cells #[.string t234, .int .i64 t235, .int .i64 t236, .slice Ao21 t237.length co21, .slice Ao22 t240.length co22, .slice Ao23 t243.length co23] 32 (0, 0)) (by (with_reducible repeat (first | refine blk_drewN ?_ _ | refine blk_drew ?_ | refine blk_alloc ?_ _)); exact BK246.out)) : gb246 ≠ gb258)); have n14_ := Aside0.mk ((by rw [hg]; exact Nat.ne_of_gt (blk_lt (g := gb246) (o := .cells #[.string t234, .int .i64 t235, .int .i64 t236, .slice Ao21 t237.length co21, .slice Ao22 t240.length co22, .slice Ao23 t243.length co23] 32 (0, 0)) (by (with_reducible repeat (first | refine blk_drewN ?_ _ | refine blk_drew ?_ | refine blk_alloc ?_ _)); exact BK246.out)) : gb258 ≠ gb246)); clear HO_8; clear HO_10; clear HO_247003; clear HO_247004; clear HO_247005; clear BK231; clear BK246; clear HB; have HO_8 := n0_; have HO_10 := n1_; have HO_247003 := n2_; have HO_247004 := n3_; have HO_247005 := n4_; have BK231 := n5_; have BK246 := n6_; have HB := n7_; have BK258 := n8_; have GW258 := n9_; have GE258 := n10_; have NB231_258 := n11_; have NB258_231 := n12_; have NB246_258 := n13_; have NB258_246 := n14_; clear n0_ n1_ n2_ n3_ n4_ n5_ n6_ n7_ n8_ n9_ n10_ n11_ n12_ n13_ n14_; clear hb hbox hg; have hnb34 := NB258_231.out; have hnc34 := NB231_258.out; have hnb35 := NB258_246.out; have hnc35 := NB246_258.out; have hcz36_0 : w33.cell? ⟨gb258, 0, none⟩ = some (.int .i64 0) := (blk_cell BK258.out 0).trans rfl; have hcz36_1 : w33.cell? ⟨gb258, 1, none⟩ = some (.int .i64 0) := (blk_cell BK258.out 1).trans rfl; have hcz36_2 : w33.cell? ⟨gb258, 2, none⟩ = some (.int .i64 0) := (blk_cell BK258.out 2).trans rfl; have hcz36_3 : w33.cell? ⟨gb258, 3, none⟩ = some (.int .i64 0) := (blk_cell BK258.out 3).trans rfl; have hcz36_4 : w33.cell? ⟨gb258, 4, none⟩ = some (.int .i64 0) := (blk_cell BK258.out 4).trans rfl; have hfz36_0 := blk_frozen BK258.out 0; have hfz36_1 := blk_frozen BK258.out 1; have hfz36_2 := blk_frozen BK258.out 2; have hfz36_3 := blk_frozen BK258.out 3; have hfz36_4 := blk_frozen BK258.out 4)); go_upto_region 12 with (first | ((with_reducible refine gate_dst (N := 12) rfl ?_); (try (refine gate_guard (by rfl) ?_; dsimp only)); refine box_event ?hg (N := 12) ?hd (cs := #[.int .i64 0, .int .i64 0, .int .i64 0, .int .i64 0, .int .i64 0]) (t := 47) ?hr ?_; (case hd => rfl); (case hg => rfl); (case hr => first | (go_simp; done) | (go_simp; rfl)); intro gb258 hg w33 hbox hb; have n0_ := Aside0.mk (Kd.R_below (by exact rU HO_8.out) hb); have n1_ := Aside0.mk (Kd.R_below (Kd.R_elderB (by exact rU HO_10.out) gb258 (Nat.le_of_eq hg.symm)) hb); have n2_ := Aside0.mk (Kd.V_below (Kd.V_elderB (by exact vU HO_247003.out) gb258 (Nat.le_of_eq hg.symm)) hb); have n3_ := Aside0.mk (Kd.V_below (Kd.V_elderB (by exact vU HO_247004.out) gb258 (Nat.le_of_eq hg.symm)) hb); have n4_ := Aside0.mk (Kd.V_below (Kd.V_elderB (by exact vU HO_247005.out) gb258 (Nat.le_of_eq hg.symm)) hb); have n5_ := Aside0.mk (blk_below (g := gb231) (o := .cells #[.int .i64 a0_0, .int .i64 a0_1, .int .i64 a0_2, .int .i64 a0_3, .slice A0_4 l0_4.length c0_4, .bool a0_5] 24 (0, 0)) (by (with_reducible repeat (first | refine blk_drewN ?_ _ | refine blk_drew ?_ | refine blk_alloc ?_ _)); exact BK231.out) hb); have n6_ := Aside0.mk (blk_below (g := gb246) (o := .cells #[.string t234, .int .i64 t235, .int .i64 t236, .slice Ao21 t237.length co21, .slice Ao22 t240.length co22, .slice Ao23 t243.length co23] 32 (0, 0)) (by (with_reducible repeat (first | refine blk_drewN ?_ _ | refine blk_drew ?_ | refine blk_alloc ?_ _)); exact BK246.out) hb); have n7_ := Aside0.mk (below_step (by exact wZ HB.out GE231.out GE246.out) hb); have n8_ := Aside0.mk (hbox); have n9_ := Aside0.mk ((by rw [hg]; exact (below_size (by exact wZ HB.out GE231.out GE246.out)) : w.heap.size ≤ gb258)); have n10_ := Aside0.mk ((by rw [hg]; exact (below_size (by exact wZ HB.out GE231.out GE246.out)) : w.heap.size ≤ gb258)); have n11_ := Aside0.mk ((by rw [hg]; exact Nat.ne_of_lt (blk_lt (g := gb231) (o := .cells #[.int .i64 a0_0, .int .i64 a0_1, .int .i64 a0_2, .int .i64 a0_3, .slice A0_4 l0_4.length c0_4, .bool a0_5] 24 (0, 0)) (by (with_reducible repeat (first | refine blk_drewN ?_ _ | refine blk_drew ?_ | refine blk_alloc ?_ _)); exact BK231.out)) : gb231 ≠ gb258)); have n12_ := Aside0.mk ((by rw [hg]; exact Nat.ne_of_gt (blk_lt (g := gb231) (o := .cells #[.int .i64 a0_0, .int .i64 a0_1, .int .i64 a0_2, .int .i64 a0_3, .slice A0_4 l0_4.length c0_4, .bool a0_5] 24 (0, 0)) (by (with_reducible repeat (first | refine blk_drewN ?_ _ | refine blk_drew ?_ | refine blk_alloc ?_ _)); exact BK231.out)) : gb258 ≠ gb231)); have n13_ := Aside0.mk ((by rw [hg]; exact Nat.ne_of_lt (blk_lt (g := gb246) (o := .cells #[.string t234, .int .i64 t235, .int .i64 t236, .slice Ao21 t237.length co21, .slice Ao22 t240.length co22, .slice Ao23 t243.length co23] 32 (0, 0)) (by (with_reducible repeat (first | refine blk_drewN ?_ _ | refine blk_drew ?_ | refine blk_alloc ?_ _)); exact BK246.out)) : gb246 ≠ gb258)); have n14_ := Aside0.mk ((by rw [hg]; exact Nat.ne_of_gt (blk_lt (g := gb246) (o := .cells #[.string t234, .int .i64 t235, .int .i64 t236, .slice Ao21 t237.length co21, .slice Ao22 t240.length co22, .slice Ao23 t243.length co23] 32 (0, 0)) (by (with_reducible repeat (first | refine blk_drewN ?_ _ | refine blk_drew ?_ | refine blk_alloc ?_ _)); exact BK246.out)) : gb258 ≠ gb246)); clear HO_8; clear HO_10; clear HO_247003; clear HO_247004; clear HO_247005; clear BK231; clear BK246; clear HB; have HO_8 := n0_; have HO_10 := n1_; have HO_247003 := n2_; have HO_247004 := n3_; have HO_247005 := n4_; have BK231 := n5_; have BK246 := n6_; have HB := n7_; have BK258 := n8_; have GW258 := n9_; have GE258 := n10_; have NB231_258 := n11_; have NB258_231 := n12_; have NB246_258 := n13_; have NB258_246 := n14_; clear n0_ n1_ n2_ n3_ n4_ n5_ n6_ n7_ n8_ n9_ n10_ n11_ n12_ n13_ n14_; clear hb hbox hg; have hnb34 := NB258_231.out; have hnc34 := NB231_258.out; have hnb35 := NB258_246.out; have hnc35 := NB246_258.out; have hcz36_0 : w33.cell? ⟨gb258, 0, none⟩ = some (.int .i64 0) := (blk_cell BK258.out 0).trans rfl; have hcz36_1 : w33.cell? ⟨gb258, 1, none⟩ = some (.int .i64 0) := (blk_cell BK258.out 1).trans rfl; have hcz36_2 : w33.cell? ⟨gb258, 2, none⟩ = some (.int .i64 0) := (blk_cell BK258.out 2).trans rfl; have hcz36_3 : w33.cell? ⟨gb258, 3, none⟩ = some (.int .i64 0) := (blk_cell BK258.out 3).trans rfl; have hcz36_4 : w33.cell? ⟨gb258, 4, none⟩ = some (.int .i64 0) := (blk_cell BK258.out 4).trans rfl; have hfz36_0 := blk_frozen BK258.out 0; have hfz36_1 := blk_frozen BK258.out 1; have hfz36_2 := blk_frozen BK258.out 2; have hfz36_3 := blk_frozen BK258.out 3; have hfz36_4 := blk_frozen BK258.out 4)))
    (try simp only [Act.put, List.setIfInBounds_toArray, List.set_cons_zero, List.set_cons_succ])
    go_cut [59] (fun v59 wc => ∃ (kq : Nat) (x59_30 : Bool), v59 = .bool x59_30 ∧ Aside0 (interlocutorlaw6_LexPlaces.j1 kq t248 t254 x11_1 x59_30 ((rd_T47 t254 x11_1).f0) ((rd_T47 t254 x11_1).f1) ((rd_T47 t254 x11_1).f2) ((rd_T47 t254 x11_1).f3) ((rd_T47 t254 x11_1).f4) = some r) ∧ Aside0 (kq ≤ k1) ∧ Aside0 (Kd.R (Kd.int .i64) 3 wc w.heap.size (fun _ => True) (.slice Ao27 t248.length co27) t248) ∧ Aside0 (Kd.R k47 47 wc w.heap.size (fun k_ => k_ ≠ gb258) (.slice (some ad257) t254.length co32) t254) ∧ Aside0 (Kd.V k53 53 wc w.heap.size (fun k_ => some k_ ≠ ((.slice Ao27 t248.length co27) : Value).ownBlock ∧ some k_ ≠ ((.slice (some ad257) t254.length co32) : Value).ownBlock ∧ k_ ≠ gb231 ∧ k_ ≠ gb246 ∧ k_ ≠ gb258) (.slice Ao21 t237.length co21) t237) ∧ Aside0 (Kd.V k108 108 wc w.heap.size (fun k_ => some k_ ≠ ((.slice Ao27 t248.length co27) : Value).ownBlock ∧ some k_ ≠ ((.slice (some ad257) t254.length co32) : Value).ownBlock ∧ k_ ≠ gb231 ∧ k_ ≠ gb246 ∧ k_ ≠ gb258) (.slice Ao22 t240.length co22) t240) ∧ Aside0 (Kd.V k138 138 wc w.heap.size (fun k_ => some k_ ≠ ((.slice Ao27 t248.length co27) : Value).ownBlock ∧ some k_ ≠ ((.slice (some ad257) t254.length co32) : Value).ownBlock ∧ k_ ≠ gb231 ∧ k_ ≠ gb246 ∧ k_ ≠ gb258) (.slice Ao23 t243.length co23) t243) ∧ Aside0 (wc.heap[gb231]? = some (.cells #[.int .i64 a0_0, .int .i64 a0_1, .int .i64 a0_2, .int .i64 a0_3, (.slice A0_4 l0_4.length c0_4), .bool a0_5] 24 (0, 0))) ∧ Aside0 (wc.heap[gb246]? = some (.cells #[.string t234, .int .i64 t235, .int .i64 t236, (.slice Ao21 t237.length co21), (.slice Ao22 t240.length co22), (.slice Ao23 t243.length co23)] 32 (0, 0))) ∧ Aside0 (wc.heap[gb258]? = some (.cells #[.int .i64 ((rd_T47 t254 x11_1).f0), .int .i64 ((rd_T47 t254 x11_1).f1), .int .i64 ((rd_T47 t254 x11_1).f2), .int .i64 ((rd_T47 t254 x11_1).f3), .int .i64 ((rd_T47 t254 x11_1).f4)] 47 (0, 0))) ∧ Aside0 (Below w.heap.size w wc))
    case first =>
     have H := HC31.out
     clear HC31
     by_cases c37 : ((rd_T47 t254 x11_1).f0) < 0
     · rw [if_pos c37] at H
       have c37b0 : decide (((rd_T47 t254 x11_1).f0) < 0) = true := decide_eq_true c37
       clear c37
       (first | rw [c37b0] | (simp only [i64_w, i32_w]; rw [c37b0]) | skip)
       have H' := Aside0.mk H
       clear H
       have hnb38 := NB258_231.out
       have hnc38 := NB231_258.out
       have hnb39 := NB258_246.out
       have hnc39 := NB246_258.out
       have hcz40_0 : w33.cell? ⟨gb258, 0, none⟩ = some (.int .i64 0) := (blk_cell BK258.out 0).trans rfl
       have hcz40_1 : w33.cell? ⟨gb258, 1, none⟩ = some (.int .i64 0) := (blk_cell BK258.out 1).trans rfl
       have hcz40_2 : w33.cell? ⟨gb258, 2, none⟩ = some (.int .i64 0) := (blk_cell BK258.out 2).trans rfl
       have hcz40_3 : w33.cell? ⟨gb258, 3, none⟩ = some (.int .i64 0) := (blk_cell BK258.out 3).trans rfl
       have hcz40_4 : w33.cell? ⟨gb258, 4, none⟩ = some (.int .i64 0) := (blk_cell BK258.out 4).trans rfl
       have hfz40_0 := blk_frozen BK258.out 0
       have hfz40_1 := blk_frozen BK258.out 1
       have hfz40_2 := blk_frozen BK258.out 2
       have hfz40_3 := blk_frozen BK258.out 3
       have hfz40_4 := blk_frozen BK258.out 4
       go_wp2
       repeat (go_quiet (fail); try go_wp2)
       go_meet
       case rel => exact ⟨_, (true), (by first | rfl | (simp; done) | (simp [*]; done)), H', ⟨by have := HK1.out; first | omega | exact Nat.le_refl _⟩, ⟨by exact rU (Kd.R_mono (Kd.R_far (p := ⟨gb258, 4, none⟩) (Kd.R_far (p := ⟨gb258, 3, none⟩) (Kd.R_far (p := ⟨gb258, 2, none⟩) (Kd.R_far (p := ⟨gb258, 1, none⟩) (Kd.R_far (p := ⟨gb258, 0, none⟩) (Kd.R_types HO_8.out BK258.out (by decide)) (fun _ hk => hk.2) (.int .i64 ((rd_T47 t254 x11_1).f0))) (fun _ hk => hk.2) (.int .i64 ((rd_T47 t254 x11_1).f1))) (fun _ hk => hk.2) (.int .i64 ((rd_T47 t254 x11_1).f2))) (fun _ hk => hk.2) (.int .i64 ((rd_T47 t254 x11_1).f3))) (fun _ hk => hk.2) (.int .i64 ((rd_T47 t254 x11_1).f4))) (fun _ hk => trivial))⟩, ⟨by exact rU (Kd.R_mono (Kd.R_far (p := ⟨gb258, 4, none⟩) (Kd.R_far (p := ⟨gb258, 3, none⟩) (Kd.R_far (p := ⟨gb258, 2, none⟩) (Kd.R_far (p := ⟨gb258, 1, none⟩) (Kd.R_far (p := ⟨gb258, 0, none⟩) (Kd.R_mono HO_10.out (fun k_ hk => (⟨hk, hk.2⟩ : _ ∧ k_ ≠ gb258))) (fun _ hk => hk.2) (.int .i64 ((rd_T47 t254 x11_1).f0))) (fun _ hk => hk.2) (.int .i64 ((rd_T47 t254 x11_1).f1))) (fun _ hk => hk.2) (.int .i64 ((rd_T47 t254 x11_1).f2))) (fun _ hk => hk.2) (.int .i64 ((rd_T47 t254 x11_1).f3))) (fun _ hk => hk.2) (.int .i64 ((rd_T47 t254 x11_1).f4))) (fun _ hk => hk.1.2))⟩, ⟨by exact vU (Kd.V_mono (Kd.V_far (p := ⟨gb258, 4, none⟩) (Kd.V_far (p := ⟨gb258, 3, none⟩) (Kd.V_far (p := ⟨gb258, 2, none⟩) (Kd.V_far (p := ⟨gb258, 1, none⟩) (Kd.V_far (p := ⟨gb258, 0, none⟩) (Kd.V_mono HO_247003.out (fun k_ hk => (⟨hk, hk.2⟩ : _ ∧ k_ ≠ gb258))) (fun _ hk => hk.2) (.int .i64 ((rd_T47 t254 x11_1).f0))) (fun _ hk => hk.2) (.int .i64 ((rd_T47 t254 x11_1).f1))) (fun _ hk => hk.2) (.int .i64 ((rd_T47 t254 x11_1).f2))) (fun _ hk => hk.2) (.int .i64 ((rd_T47 t254 x11_1).f3))) (fun _ hk => hk.2) (.int .i64 ((rd_T47 t254 x11_1).f4))) (fun _ hk => ⟨hk.1.1.1, ⟨hk.1.1.2.1, ⟨hk.1.1.2.2.1, ⟨hk.1.1.2.2.2, hk.1.2⟩⟩⟩⟩))⟩, ⟨by exact vU (Kd.V_mono (Kd.V_far (p := ⟨gb258, 4, none⟩) (Kd.V_far (p := ⟨gb258, 3, none⟩) (Kd.V_far (p := ⟨gb258, 2, none⟩) (Kd.V_far (p := ⟨gb258, 1, none⟩) (Kd.V_far (p := ⟨gb258, 0, none⟩) (Kd.V_mono HO_247004.out (fun k_ hk => (⟨hk, hk.2⟩ : _ ∧ k_ ≠ gb258))) (fun _ hk => hk.2) (.int .i64 ((rd_T47 t254 x11_1).f0))) (fun _ hk => hk.2) (.int .i64 ((rd_T47 t254 x11_1).f1))) (fun _ hk => hk.2) (.int .i64 ((rd_T47 t254 x11_1).f2))) (fun _ hk => hk.2) (.int .i64 ((rd_T47 t254 x11_1).f3))) (fun _ hk => hk.2) (.int .i64 ((rd_T47 t254 x11_1).f4))) (fun _ hk => ⟨hk.1.1.1, ⟨hk.1.1.2.1, ⟨hk.1.1.2.2.1, ⟨hk.1.1.2.2.2, hk.1.2⟩⟩⟩⟩))⟩, ⟨by exact vU (Kd.V_mono (Kd.V_far (p := ⟨gb258, 4, none⟩) (Kd.V_far (p := ⟨gb258, 3, none⟩) (Kd.V_far (p := ⟨gb258, 2, none⟩) (Kd.V_far (p := ⟨gb258, 1, none⟩) (Kd.V_far (p := ⟨gb258, 0, none⟩) (Kd.V_mono HO_247005.out (fun k_ hk => (⟨hk, hk.2⟩ : _ ∧ k_ ≠ gb258))) (fun _ hk => hk.2) (.int .i64 ((rd_T47 t254 x11_1).f0))) (fun _ hk => hk.2) (.int .i64 ((rd_T47 t254 x11_1).f1))) (fun _ hk => hk.2) (.int .i64 ((rd_T47 t254 x11_1).f2))) (fun _ hk => hk.2) (.int .i64 ((rd_T47 t254 x11_1).f3))) (fun _ hk => hk.2) (.int .i64 ((rd_T47 t254 x11_1).f4))) (fun _ hk => ⟨hk.1.1.1, ⟨hk.1.1.2.1, ⟨hk.1.1.2.2.1, ⟨hk.1.1.2.2.2, hk.1.2⟩⟩⟩⟩))⟩, ⟨by (with_reducible repeat (first | refine blk_drewN ?_ _ | refine blk_drew ?_ | refine blk_alloc ?_ _)); refine blk_far ?_ NB231_258.out _; (with_reducible repeat (first | refine blk_drewN ?_ _ | refine blk_drew ?_ | refine blk_alloc ?_ _)); refine blk_far ?_ NB231_258.out _; (with_reducible repeat (first | refine blk_drewN ?_ _ | refine blk_drew ?_ | refine blk_alloc ?_ _)); refine blk_far ?_ NB231_258.out _; (with_reducible repeat (first | refine blk_drewN ?_ _ | refine blk_drew ?_ | refine blk_alloc ?_ _)); refine blk_far ?_ NB231_258.out _; (with_reducible repeat (first | refine blk_drewN ?_ _ | refine blk_drew ?_ | refine blk_alloc ?_ _)); refine blk_far ?_ NB231_258.out _; (with_reducible repeat (first | refine blk_drewN ?_ _ | refine blk_drew ?_ | refine blk_alloc ?_ _)); exact BK231.out⟩, ⟨by (with_reducible repeat (first | refine blk_drewN ?_ _ | refine blk_drew ?_ | refine blk_alloc ?_ _)); refine blk_far ?_ NB246_258.out _; (with_reducible repeat (first | refine blk_drewN ?_ _ | refine blk_drew ?_ | refine blk_alloc ?_ _)); refine blk_far ?_ NB246_258.out _; (with_reducible repeat (first | refine blk_drewN ?_ _ | refine blk_drew ?_ | refine blk_alloc ?_ _)); refine blk_far ?_ NB246_258.out _; (with_reducible repeat (first | refine blk_drewN ?_ _ | refine blk_drew ?_ | refine blk_alloc ?_ _)); refine blk_far ?_ NB246_258.out _; (with_reducible repeat (first | refine blk_drewN ?_ _ | refine blk_drew ?_ | refine blk_alloc ?_ _)); refine blk_far ?_ NB246_258.out _; (with_reducible repeat (first | refine blk_drewN ?_ _ | refine blk_drew ?_ | refine blk_alloc ?_ _)); exact BK246.out⟩, ⟨by (with_reducible repeat (first | refine blk_drewN ?_ _ | refine blk_drew ?_ | refine blk_alloc ?_ _)); refine blk_put (cs := #[.int .i64 ((rd_T47 t254 x11_1).f0), .int .i64 ((rd_T47 t254 x11_1).f1), .int .i64 ((rd_T47 t254 x11_1).f2), .int .i64 ((rd_T47 t254 x11_1).f3), .int .i64 0]) ?_ 4 _ rfl; (with_reducible repeat (first | refine blk_drewN ?_ _ | refine blk_drew ?_ | refine blk_alloc ?_ _)); refine blk_put (cs := #[.int .i64 ((rd_T47 t254 x11_1).f0), .int .i64 ((rd_T47 t254 x11_1).f1), .int .i64 ((rd_T47 t254 x11_1).f2), .int .i64 0, .int .i64 0]) ?_ 3 _ rfl; (with_reducible repeat (first | refine blk_drewN ?_ _ | refine blk_drew ?_ | refine blk_alloc ?_ _)); refine blk_put (cs := #[.int .i64 ((rd_T47 t254 x11_1).f0), .int .i64 ((rd_T47 t254 x11_1).f1), .int .i64 0, .int .i64 0, .int .i64 0]) ?_ 2 _ rfl; (with_reducible repeat (first | refine blk_drewN ?_ _ | refine blk_drew ?_ | refine blk_alloc ?_ _)); refine blk_put (cs := #[.int .i64 ((rd_T47 t254 x11_1).f0), .int .i64 0, .int .i64 0, .int .i64 0, .int .i64 0]) ?_ 1 _ rfl; (with_reducible repeat (first | refine blk_drewN ?_ _ | refine blk_drew ?_ | refine blk_alloc ?_ _)); refine blk_put (cs := #[.int .i64 0, .int .i64 0, .int .i64 0, .int .i64 0, .int .i64 0]) ?_ 0 _ rfl; (with_reducible repeat (first | refine blk_drewN ?_ _ | refine blk_drew ?_ | refine blk_alloc ?_ _)); exact BK258.out⟩, ⟨by repeat (first | (with_reducible first | exact HB.out | apply below_alloc | apply pw_below_drewN | apply below_drew1 | refine below_set ?_ GE231.out | refine below_set ?_ GE246.out | refine below_set ?_ GE258.out) | exact HB.out)⟩⟩
     rw [if_neg c37] at H
     have c37b0 : decide (((rd_T47 t254 x11_1).f0) < 0) = false := decide_eq_false c37
     clear c37
     (first | rw [c37b0] | (simp only [i64_w, i32_w]; rw [c37b0]) | skip)
     by_cases c41 : ((rd_T47 t254 x11_1).f0) ≥ ((rd_T47 t254 x11_1).f1)
     · rw [if_pos c41] at H
       have c41b0 : decide (((rd_T47 t254 x11_1).f1) ≤ ((rd_T47 t254 x11_1).f0)) = true := decide_eq_true c41
       clear c41
       have H' := Aside0.mk H
       clear H
       have hnb42 := NB258_231.out
       have hnc42 := NB231_258.out
       have hnb43 := NB258_246.out
       have hnc43 := NB246_258.out
       have hcz44_0 : w33.cell? ⟨gb258, 0, none⟩ = some (.int .i64 0) := (blk_cell BK258.out 0).trans rfl
       have hcz44_1 : w33.cell? ⟨gb258, 1, none⟩ = some (.int .i64 0) := (blk_cell BK258.out 1).trans rfl
       have hcz44_2 : w33.cell? ⟨gb258, 2, none⟩ = some (.int .i64 0) := (blk_cell BK258.out 2).trans rfl
       have hcz44_3 : w33.cell? ⟨gb258, 3, none⟩ = some (.int .i64 0) := (blk_cell BK258.out 3).trans rfl
       have hcz44_4 : w33.cell? ⟨gb258, 4, none⟩ = some (.int .i64 0) := (blk_cell BK258.out 4).trans rfl
       have hfz44_0 := blk_frozen BK258.out 0
       have hfz44_1 := blk_frozen BK258.out 1
       have hfz44_2 := blk_frozen BK258.out 2
       have hfz44_3 := blk_frozen BK258.out 3
       have hfz44_4 := blk_frozen BK258.out 4
       go_wp2
       repeat (go_quiet (fail); try go_wp2)
       go_meet
       case rel => exact ⟨_, (true), (by first | rfl | (simp; done) | (simp [*]; done)), H', ⟨by have := HK1.out; first | omega | exact Nat.le_refl _⟩, ⟨by exact rU (Kd.R_mono (Kd.R_far (p := ⟨gb258, 4, none⟩) (Kd.R_far (p := ⟨gb258, 3, none⟩) (Kd.R_far (p := ⟨gb258, 2, none⟩) (Kd.R_far (p := ⟨gb258, 1, none⟩) (Kd.R_far (p := ⟨gb258, 0, none⟩) (Kd.R_types HO_8.out BK258.out (by decide)) (fun _ hk => hk.2) (.int .i64 ((rd_T47 t254 x11_1).f0))) (fun _ hk => hk.2) (.int .i64 ((rd_T47 t254 x11_1).f1))) (fun _ hk => hk.2) (.int .i64 ((rd_T47 t254 x11_1).f2))) (fun _ hk => hk.2) (.int .i64 ((rd_T47 t254 x11_1).f3))) (fun _ hk => hk.2) (.int .i64 ((rd_T47 t254 x11_1).f4))) (fun _ hk => trivial))⟩, ⟨by exact rU (Kd.R_mono (Kd.R_far (p := ⟨gb258, 4, none⟩) (Kd.R_far (p := ⟨gb258, 3, none⟩) (Kd.R_far (p := ⟨gb258, 2, none⟩) (Kd.R_far (p := ⟨gb258, 1, none⟩) (Kd.R_far (p := ⟨gb258, 0, none⟩) (Kd.R_mono HO_10.out (fun k_ hk => (⟨hk, hk.2⟩ : _ ∧ k_ ≠ gb258))) (fun _ hk => hk.2) (.int .i64 ((rd_T47 t254 x11_1).f0))) (fun _ hk => hk.2) (.int .i64 ((rd_T47 t254 x11_1).f1))) (fun _ hk => hk.2) (.int .i64 ((rd_T47 t254 x11_1).f2))) (fun _ hk => hk.2) (.int .i64 ((rd_T47 t254 x11_1).f3))) (fun _ hk => hk.2) (.int .i64 ((rd_T47 t254 x11_1).f4))) (fun _ hk => hk.1.2))⟩, ⟨by exact vU (Kd.V_mono (Kd.V_far (p := ⟨gb258, 4, none⟩) (Kd.V_far (p := ⟨gb258, 3, none⟩) (Kd.V_far (p := ⟨gb258, 2, none⟩) (Kd.V_far (p := ⟨gb258, 1, none⟩) (Kd.V_far (p := ⟨gb258, 0, none⟩) (Kd.V_mono HO_247003.out (fun k_ hk => (⟨hk, hk.2⟩ : _ ∧ k_ ≠ gb258))) (fun _ hk => hk.2) (.int .i64 ((rd_T47 t254 x11_1).f0))) (fun _ hk => hk.2) (.int .i64 ((rd_T47 t254 x11_1).f1))) (fun _ hk => hk.2) (.int .i64 ((rd_T47 t254 x11_1).f2))) (fun _ hk => hk.2) (.int .i64 ((rd_T47 t254 x11_1).f3))) (fun _ hk => hk.2) (.int .i64 ((rd_T47 t254 x11_1).f4))) (fun _ hk => ⟨hk.1.1.1, ⟨hk.1.1.2.1, ⟨hk.1.1.2.2.1, ⟨hk.1.1.2.2.2, hk.1.2⟩⟩⟩⟩))⟩, ⟨by exact vU (Kd.V_mono (Kd.V_far (p := ⟨gb258, 4, none⟩) (Kd.V_far (p := ⟨gb258, 3, none⟩) (Kd.V_far (p := ⟨gb258, 2, none⟩) (Kd.V_far (p := ⟨gb258, 1, none⟩) (Kd.V_far (p := ⟨gb258, 0, none⟩) (Kd.V_mono HO_247004.out (fun k_ hk => (⟨hk, hk.2⟩ : _ ∧ k_ ≠ gb258))) (fun _ hk => hk.2) (.int .i64 ((rd_T47 t254 x11_1).f0))) (fun _ hk => hk.2) (.int .i64 ((rd_T47 t254 x11_1).f1))) (fun _ hk => hk.2) (.int .i64 ((rd_T47 t254 x11_1).f2))) (fun _ hk => hk.2) (.int .i64 ((rd_T47 t254 x11_1).f3))) (fun _ hk => hk.2) (.int .i64 ((rd_T47 t254 x11_1).f4))) (fun _ hk => ⟨hk.1.1.1, ⟨hk.1.1.2.1, ⟨hk.1.1.2.2.1, ⟨hk.1.1.2.2.2, hk.1.2⟩⟩⟩⟩))⟩, ⟨by exact vU (Kd.V_mono (Kd.V_far (p := ⟨gb258, 4, none⟩) (Kd.V_far (p := ⟨gb258, 3, none⟩) (Kd.V_far (p := ⟨gb258, 2, none⟩) (Kd.V_far (p := ⟨gb258, 1, none⟩) (Kd.V_far (p := ⟨gb258, 0, none⟩) (Kd.V_mono HO_247005.out (fun k_ hk => (⟨hk, hk.2⟩ : _ ∧ k_ ≠ gb258))) (fun _ hk => hk.2) (.int .i64 ((rd_T47 t254 x11_1).f0))) (fun _ hk => hk.2) (.int .i64 ((rd_T47 t254 x11_1).f1))) (fun _ hk => hk.2) (.int .i64 ((rd_T47 t254 x11_1).f2))) (fun _ hk => hk.2) (.int .i64 ((rd_T47 t254 x11_1).f3))) (fun _ hk => hk.2) (.int .i64 ((rd_T47 t254 x11_1).f4))) (fun _ hk => ⟨hk.1.1.1, ⟨hk.1.1.2.1, ⟨hk.1.1.2.2.1, ⟨hk.1.1.2.2.2, hk.1.2⟩⟩⟩⟩))⟩, ⟨by (with_reducible repeat (first | refine blk_drewN ?_ _ | refine blk_drew ?_ | refine blk_alloc ?_ _)); refine blk_far ?_ NB231_258.out _; (with_reducible repeat (first | refine blk_drewN ?_ _ | refine blk_drew ?_ | refine blk_alloc ?_ _)); refine blk_far ?_ NB231_258.out _; (with_reducible repeat (first | refine blk_drewN ?_ _ | refine blk_drew ?_ | refine blk_alloc ?_ _)); refine blk_far ?_ NB231_258.out _; (with_reducible repeat (first | refine blk_drewN ?_ _ | refine blk_drew ?_ | refine blk_alloc ?_ _)); refine blk_far ?_ NB231_258.out _; (with_reducible repeat (first | refine blk_drewN ?_ _ | refine blk_drew ?_ | refine blk_alloc ?_ _)); refine blk_far ?_ NB231_258.out _; (with_reducible repeat (first | refine blk_drewN ?_ _ | refine blk_drew ?_ | refine blk_alloc ?_ _)); exact BK231.out⟩, ⟨by (with_reducible repeat (first | refine blk_drewN ?_ _ | refine blk_drew ?_ | refine blk_alloc ?_ _)); refine blk_far ?_ NB246_258.out _; (with_reducible repeat (first | refine blk_drewN ?_ _ | refine blk_drew ?_ | refine blk_alloc ?_ _)); refine blk_far ?_ NB246_258.out _; (with_reducible repeat (first | refine blk_drewN ?_ _ | refine blk_drew ?_ | refine blk_alloc ?_ _)); refine blk_far ?_ NB246_258.out _; (with_reducible repeat (first | refine blk_drewN ?_ _ | refine blk_drew ?_ | refine blk_alloc ?_ _)); refine blk_far ?_ NB246_258.out _; (with_reducible repeat (first | refine blk_drewN ?_ _ | refine blk_drew ?_ | refine blk_alloc ?_ _)); refine blk_far ?_ NB246_258.out _; (with_reducible repeat (first | refine blk_drewN ?_ _ | refine blk_drew ?_ | refine blk_alloc ?_ _)); exact BK246.out⟩, ⟨by (with_reducible repeat (first | refine blk_drewN ?_ _ | refine blk_drew ?_ | refine blk_alloc ?_ _)); refine blk_put (cs := #[.int .i64 ((rd_T47 t254 x11_1).f0), .int .i64 ((rd_T47 t254 x11_1).f1), .int .i64 ((rd_T47 t254 x11_1).f2), .int .i64 ((rd_T47 t254 x11_1).f3), .int .i64 0]) ?_ 4 _ rfl; (with_reducible repeat (first | refine blk_drewN ?_ _ | refine blk_drew ?_ | refine blk_alloc ?_ _)); refine blk_put (cs := #[.int .i64 ((rd_T47 t254 x11_1).f0), .int .i64 ((rd_T47 t254 x11_1).f1), .int .i64 ((rd_T47 t254 x11_1).f2), .int .i64 0, .int .i64 0]) ?_ 3 _ rfl; (with_reducible repeat (first | refine blk_drewN ?_ _ | refine blk_drew ?_ | refine blk_alloc ?_ _)); refine blk_put (cs := #[.int .i64 ((rd_T47 t254 x11_1).f0), .int .i64 ((rd_T47 t254 x11_1).f1), .int .i64 0, .int .i64 0, .int .i64 0]) ?_ 2 _ rfl; (with_reducible repeat (first | refine blk_drewN ?_ _ | refine blk_drew ?_ | refine blk_alloc ?_ _)); refine blk_put (cs := #[.int .i64 ((rd_T47 t254 x11_1).f0), .int .i64 0, .int .i64 0, .int .i64 0, .int .i64 0]) ?_ 1 _ rfl; (with_reducible repeat (first | refine blk_drewN ?_ _ | refine blk_drew ?_ | refine blk_alloc ?_ _)); refine blk_put (cs := #[.int .i64 0, .int .i64 0, .int .i64 0, .int .i64 0, .int .i64 0]) ?_ 0 _ rfl; (with_reducible repeat (first | refine blk_drewN ?_ _ | refine blk_drew ?_ | refine blk_alloc ?_ _)); exact BK258.out⟩, ⟨by repeat (first | (with_reducible first | exact HB.out | apply below_alloc | apply pw_below_drewN | apply below_drew1 | refine below_set ?_ GE231.out | refine below_set ?_ GE246.out | refine below_set ?_ GE258.out) | exact HB.out)⟩⟩
     rw [if_neg c41] at H
     have c41b0 : decide (((rd_T47 t254 x11_1).f1) ≤ ((rd_T47 t254 x11_1).f0)) = false := decide_eq_false c41
     clear c41
     have H' := Aside0.mk H
     clear H
     have hnb45 := NB258_231.out
     have hnc45 := NB231_258.out
     have hnb46 := NB258_246.out
     have hnc46 := NB246_258.out
     have hcz47_0 : w33.cell? ⟨gb258, 0, none⟩ = some (.int .i64 0) := (blk_cell BK258.out 0).trans rfl
     have hcz47_1 : w33.cell? ⟨gb258, 1, none⟩ = some (.int .i64 0) := (blk_cell BK258.out 1).trans rfl
     have hcz47_2 : w33.cell? ⟨gb258, 2, none⟩ = some (.int .i64 0) := (blk_cell BK258.out 2).trans rfl
     have hcz47_3 : w33.cell? ⟨gb258, 3, none⟩ = some (.int .i64 0) := (blk_cell BK258.out 3).trans rfl
     have hcz47_4 : w33.cell? ⟨gb258, 4, none⟩ = some (.int .i64 0) := (blk_cell BK258.out 4).trans rfl
     have hfz47_0 := blk_frozen BK258.out 0
     have hfz47_1 := blk_frozen BK258.out 1
     have hfz47_2 := blk_frozen BK258.out 2
     have hfz47_3 := blk_frozen BK258.out 3
     have hfz47_4 := blk_frozen BK258.out 4
     go_wp2
     repeat (go_quiet (fail); try go_wp2)
     go_meet
     case rel => exact ⟨_, (decide (((rd_T47 t254 x11_1).f1) > (t248.length : Int))), (by first | rfl | (simp; done) | (simp [*]; done)), H', ⟨by have := HK1.out; first | omega | exact Nat.le_refl _⟩, ⟨by exact rU (Kd.R_mono (Kd.R_far (p := ⟨gb258, 4, none⟩) (Kd.R_far (p := ⟨gb258, 3, none⟩) (Kd.R_far (p := ⟨gb258, 2, none⟩) (Kd.R_far (p := ⟨gb258, 1, none⟩) (Kd.R_far (p := ⟨gb258, 0, none⟩) (Kd.R_types HO_8.out BK258.out (by decide)) (fun _ hk => hk.2) (.int .i64 ((rd_T47 t254 x11_1).f0))) (fun _ hk => hk.2) (.int .i64 ((rd_T47 t254 x11_1).f1))) (fun _ hk => hk.2) (.int .i64 ((rd_T47 t254 x11_1).f2))) (fun _ hk => hk.2) (.int .i64 ((rd_T47 t254 x11_1).f3))) (fun _ hk => hk.2) (.int .i64 ((rd_T47 t254 x11_1).f4))) (fun _ hk => trivial))⟩, ⟨by exact rU (Kd.R_mono (Kd.R_far (p := ⟨gb258, 4, none⟩) (Kd.R_far (p := ⟨gb258, 3, none⟩) (Kd.R_far (p := ⟨gb258, 2, none⟩) (Kd.R_far (p := ⟨gb258, 1, none⟩) (Kd.R_far (p := ⟨gb258, 0, none⟩) (Kd.R_mono HO_10.out (fun k_ hk => (⟨hk, hk.2⟩ : _ ∧ k_ ≠ gb258))) (fun _ hk => hk.2) (.int .i64 ((rd_T47 t254 x11_1).f0))) (fun _ hk => hk.2) (.int .i64 ((rd_T47 t254 x11_1).f1))) (fun _ hk => hk.2) (.int .i64 ((rd_T47 t254 x11_1).f2))) (fun _ hk => hk.2) (.int .i64 ((rd_T47 t254 x11_1).f3))) (fun _ hk => hk.2) (.int .i64 ((rd_T47 t254 x11_1).f4))) (fun _ hk => hk.1.2))⟩, ⟨by exact vU (Kd.V_mono (Kd.V_far (p := ⟨gb258, 4, none⟩) (Kd.V_far (p := ⟨gb258, 3, none⟩) (Kd.V_far (p := ⟨gb258, 2, none⟩) (Kd.V_far (p := ⟨gb258, 1, none⟩) (Kd.V_far (p := ⟨gb258, 0, none⟩) (Kd.V_mono HO_247003.out (fun k_ hk => (⟨hk, hk.2⟩ : _ ∧ k_ ≠ gb258))) (fun _ hk => hk.2) (.int .i64 ((rd_T47 t254 x11_1).f0))) (fun _ hk => hk.2) (.int .i64 ((rd_T47 t254 x11_1).f1))) (fun _ hk => hk.2) (.int .i64 ((rd_T47 t254 x11_1).f2))) (fun _ hk => hk.2) (.int .i64 ((rd_T47 t254 x11_1).f3))) (fun _ hk => hk.2) (.int .i64 ((rd_T47 t254 x11_1).f4))) (fun _ hk => ⟨hk.1.1.1, ⟨hk.1.1.2.1, ⟨hk.1.1.2.2.1, ⟨hk.1.1.2.2.2, hk.1.2⟩⟩⟩⟩))⟩, ⟨by exact vU (Kd.V_mono (Kd.V_far (p := ⟨gb258, 4, none⟩) (Kd.V_far (p := ⟨gb258, 3, none⟩) (Kd.V_far (p := ⟨gb258, 2, none⟩) (Kd.V_far (p := ⟨gb258, 1, none⟩) (Kd.V_far (p := ⟨gb258, 0, none⟩) (Kd.V_mono HO_247004.out (fun k_ hk => (⟨hk, hk.2⟩ : _ ∧ k_ ≠ gb258))) (fun _ hk => hk.2) (.int .i64 ((rd_T47 t254 x11_1).f0))) (fun _ hk => hk.2) (.int .i64 ((rd_T47 t254 x11_1).f1))) (fun _ hk => hk.2) (.int .i64 ((rd_T47 t254 x11_1).f2))) (fun _ hk => hk.2) (.int .i64 ((rd_T47 t254 x11_1).f3))) (fun _ hk => hk.2) (.int .i64 ((rd_T47 t254 x11_1).f4))) (fun _ hk => ⟨hk.1.1.1, ⟨hk.1.1.2.1, ⟨hk.1.1.2.2.1, ⟨hk.1.1.2.2.2, hk.1.2⟩⟩⟩⟩))⟩, ⟨by exact vU (Kd.V_mono (Kd.V_far (p := ⟨gb258, 4, none⟩) (Kd.V_far (p := ⟨gb258, 3, none⟩) (Kd.V_far (p := ⟨gb258, 2, none⟩) (Kd.V_far (p := ⟨gb258, 1, none⟩) (Kd.V_far (p := ⟨gb258, 0, none⟩) (Kd.V_mono HO_247005.out (fun k_ hk => (⟨hk, hk.2⟩ : _ ∧ k_ ≠ gb258))) (fun _ hk => hk.2) (.int .i64 ((rd_T47 t254 x11_1).f0))) (fun _ hk => hk.2) (.int .i64 ((rd_T47 t254 x11_1).f1))) (fun _ hk => hk.2) (.int .i64 ((rd_T47 t254 x11_1).f2))) (fun _ hk => hk.2) (.int .i64 ((rd_T47 t254 x11_1).f3))) (fun _ hk => hk.2) (.int .i64 ((rd_T47 t254 x11_1).f4))) (fun _ hk => ⟨hk.1.1.1, ⟨hk.1.1.2.1, ⟨hk.1.1.2.2.1, ⟨hk.1.1.2.2.2, hk.1.2⟩⟩⟩⟩))⟩, ⟨by (with_reducible repeat (first | refine blk_drewN ?_ _ | refine blk_drew ?_ | refine blk_alloc ?_ _)); refine blk_far ?_ NB231_258.out _; (with_reducible repeat (first | refine blk_drewN ?_ _ | refine blk_drew ?_ | refine blk_alloc ?_ _)); refine blk_far ?_ NB231_258.out _; (with_reducible repeat (first | refine blk_drewN ?_ _ | refine blk_drew ?_ | refine blk_alloc ?_ _)); refine blk_far ?_ NB231_258.out _; (with_reducible repeat (first | refine blk_drewN ?_ _ | refine blk_drew ?_ | refine blk_alloc ?_ _)); refine blk_far ?_ NB231_258.out _; (with_reducible repeat (first | refine blk_drewN ?_ _ | refine blk_drew ?_ | refine blk_alloc ?_ _)); refine blk_far ?_ NB231_258.out _; (with_reducible repeat (first | refine blk_drewN ?_ _ | refine blk_drew ?_ | refine blk_alloc ?_ _)); exact BK231.out⟩, ⟨by (with_reducible repeat (first | refine blk_drewN ?_ _ | refine blk_drew ?_ | refine blk_alloc ?_ _)); refine blk_far ?_ NB246_258.out _; (with_reducible repeat (first | refine blk_drewN ?_ _ | refine blk_drew ?_ | refine blk_alloc ?_ _)); refine blk_far ?_ NB246_258.out _; (with_reducible repeat (first | refine blk_drewN ?_ _ | refine blk_drew ?_ | refine blk_alloc ?_ _)); refine blk_far ?_ NB246_258.out _; (with_reducible repeat (first | refine blk_drewN ?_ _ | refine blk_drew ?_ | refine blk_alloc ?_ _)); refine blk_far ?_ NB246_258.out _; (with_reducible repeat (first | refine blk_drewN ?_ _ | refine blk_drew ?_ | refine blk_alloc ?_ _)); refine blk_far ?_ NB246_258.out _; (with_reducible repeat (first | refine blk_drewN ?_ _ | refine blk_drew ?_ | refine blk_alloc ?_ _)); exact BK246.out⟩, ⟨by (with_reducible repeat (first | refine blk_drewN ?_ _ | refine blk_drew ?_ | refine blk_alloc ?_ _)); refine blk_put (cs := #[.int .i64 ((rd_T47 t254 x11_1).f0), .int .i64 ((rd_T47 t254 x11_1).f1), .int .i64 ((rd_T47 t254 x11_1).f2), .int .i64 ((rd_T47 t254 x11_1).f3), .int .i64 0]) ?_ 4 _ rfl; (with_reducible repeat (first | refine blk_drewN ?_ _ | refine blk_drew ?_ | refine blk_alloc ?_ _)); refine blk_put (cs := #[.int .i64 ((rd_T47 t254 x11_1).f0), .int .i64 ((rd_T47 t254 x11_1).f1), .int .i64 ((rd_T47 t254 x11_1).f2), .int .i64 0, .int .i64 0]) ?_ 3 _ rfl; (with_reducible repeat (first | refine blk_drewN ?_ _ | refine blk_drew ?_ | refine blk_alloc ?_ _)); refine blk_put (cs := #[.int .i64 ((rd_T47 t254 x11_1).f0), .int .i64 ((rd_T47 t254 x11_1).f1), .int .i64 0, .int .i64 0, .int .i64 0]) ?_ 2 _ rfl; (with_reducible repeat (first | refine blk_drewN ?_ _ | refine blk_drew ?_ | refine blk_alloc ?_ _)); refine blk_put (cs := #[.int .i64 ((rd_T47 t254 x11_1).f0), .int .i64 0, .int .i64 0, .int .i64 0, .int .i64 0]) ?_ 1 _ rfl; (with_reducible repeat (first | refine blk_drewN ?_ _ | refine blk_drew ?_ | refine blk_alloc ?_ _)); refine blk_put (cs := #[.int .i64 0, .int .i64 0, .int .i64 0, .int .i64 0, .int .i64 0]) ?_ 0 _ rfl; (with_reducible repeat (first | refine blk_drewN ?_ _ | refine blk_drew ?_ | refine blk_alloc ?_ _)); exact BK258.out⟩, ⟨by repeat (first | (with_reducible first | exact HB.out | apply below_alloc | apply pw_below_drewN | apply below_drew1 | refine below_set ?_ GE231.out | refine below_set ?_ GE246.out | refine below_set ?_ GE258.out) | exact HB.out)⟩⟩
    case rest =>
     clear HC31
     try clear c1
     try clear c2
     try clear p2
     try clear q2
     try clear hx2
     try clear c3
     try clear c4
     try clear c5
     try clear c7
     try clear c19
     try clear p25
     try clear q25
     try clear hx25
     try clear c29
     try clear c29b0
     try clear c30
     try clear c30b0
     try clear c34
     try clear c35
     try clear c37
     try clear c37b0
     try clear c38
     try clear c39
     try clear c41
     try clear c41b0
     try clear c42
     try clear c43
     try clear c45
     try clear c46
     try clear hcz14_0
     try clear hcz14_1
     try clear hcz14_2
     try clear hcz14_3
     try clear hcz14_4
     try clear hcz14_5
     try clear hcz16_0
     try clear hcz16_1
     try clear hcz16_2
     try clear hcz16_3
     try clear hcz16_4
     try clear hcz16_5
     try clear hcz20_0
     try clear hcz20_1
     try clear hcz20_2
     try clear hcz20_3
     try clear hcz20_4
     try clear hcz20_5
     try clear hcz26_0
     try clear hcz26_1
     try clear hcz26_2
     try clear hcz26_3
     try clear hcz26_4
     try clear hcz26_5
     try clear hcz36_0
     try clear hcz36_1
     try clear hcz36_2
     try clear hcz36_3
     try clear hcz36_4
     try clear hcz40_0
     try clear hcz40_1
     try clear hcz40_2
     try clear hcz40_3
     try clear hcz40_4
     try clear hcz44_0
     try clear hcz44_1
     try clear hcz44_2
     try clear hcz44_3
     try clear hcz44_4
     try clear hcz47_0
     try clear hcz47_1
     try clear hcz47_2
     try clear hcz47_3
     try clear hcz47_4
     try clear hfz14_0
     try clear hfz14_1
     try clear hfz14_2
     try clear hfz14_3
     try clear hfz14_4
     try clear hfz14_5
     try clear hfz16_0
     try clear hfz16_1
     try clear hfz16_2
     try clear hfz16_3
     try clear hfz16_4
     try clear hfz16_5
     try clear hfz20_0
     try clear hfz20_1
     try clear hfz20_2
     try clear hfz20_3
     try clear hfz20_4
     try clear hfz20_5
     try clear hfz26_0
     try clear hfz26_1
     try clear hfz26_2
     try clear hfz26_3
     try clear hfz26_4
     try clear hfz26_5
     try clear hfz36_0
     try clear hfz36_1
     try clear hfz36_2
     try clear hfz36_3
     try clear hfz36_4
     try clear hfz40_0
     try clear hfz40_1
     try clear hfz40_2
     try clear hfz40_3
     try clear hfz40_4
     try clear hfz44_0
     try clear hfz44_1
     try clear hfz44_2
     try clear hfz44_3
     try clear hfz44_4
     try clear hfz47_0
     try clear hfz47_1
     try clear hfz47_2
     try clear hfz47_3
     try clear hfz47_4
     try clear hx257_0
     try clear hx257_1
     try clear hx257_2
     try clear hx257_3
     try clear hx257_4
     try clear p2
     try clear p257
     try clear q257
     obtain ⟨kq, x59_30, rfl, HA, HJ30, HO_8, HO_10, HO_247003, HO_247004, HO_247005, BK231, BK246, BK258, HB⟩ := hcut
     cases kq with
     | zero => exact absurd HA.out (by simp [interlocutorlaw6_LexPlaces.j1])
     | succ kj30 =>
      have H := HA.out
      clear HA
      simp only [interlocutorlaw6_LexPlaces.j1] at H
      by_cases c48 : x59_30 = true
      · subst c48
        have H1 : (some false) = some r := by rw [if_pos rfl] at H; exact H
        clear H
        have H := H1
        clear H1
        obtain rfl := Option.some.inj H
        go_wp2
        repeat (go_quiet (fail); try go_wp2)
        go_ret
        exact ⟨by first | rfl | (simp [errW_none, errW_some] <;> rfl) | (simp [*, errW_none, errW_some] <;> rfl), by repeat (first | (with_reducible first | exact HB.out | apply below_alloc | apply pw_below_drewN | apply below_drew1 | refine below_set ?_ GE231.out | refine below_set ?_ GE246.out | refine below_set ?_ GE258.out) | exact HB.out)⟩
      replace c48 := Bool.eq_false_iff.mpr c48
      subst c48
      have H1 : (interlocutorlaw6_LexPlaces.l1 kj30 t248 t254 x11_1 ((rd_T47 t254 x11_1).f0) ((rd_T47 t254 x11_1).f0) ((rd_T47 t254 x11_1).f1) ((rd_T47 t254 x11_1).f2) ((rd_T47 t254 x11_1).f3) ((rd_T47 t254 x11_1).f4)) = some r := by rw [if_neg (show ¬ (false = true) by decide)] at H; exact H
      clear H
      have H := H1
      clear H1
      have HC49 := Aside0.mk H
      clear H
      have hnb50 := NB258_231.out
      have hnc50 := NB231_258.out
      have hnb51 := NB258_246.out
      have hnc51 := NB246_258.out
      have hcz52_0 : wc.cell? ⟨gb258, 0, none⟩ = some (.int .i64 ((rd_T47 t254 x11_1).f0)) := (blk_cell BK258.out 0).trans rfl
      have hcz52_1 : wc.cell? ⟨gb258, 1, none⟩ = some (.int .i64 ((rd_T47 t254 x11_1).f1)) := (blk_cell BK258.out 1).trans rfl
      have hcz52_2 : wc.cell? ⟨gb258, 2, none⟩ = some (.int .i64 ((rd_T47 t254 x11_1).f2)) := (blk_cell BK258.out 2).trans rfl
      have hcz52_3 : wc.cell? ⟨gb258, 3, none⟩ = some (.int .i64 ((rd_T47 t254 x11_1).f3)) := (blk_cell BK258.out 3).trans rfl
      have hcz52_4 : wc.cell? ⟨gb258, 4, none⟩ = some (.int .i64 ((rd_T47 t254 x11_1).f4)) := (blk_cell BK258.out 4).trans rfl
      have hfz52_0 := blk_frozen BK258.out 0
      have hfz52_1 := blk_frozen BK258.out 1
      have hfz52_2 := blk_frozen BK258.out 2
      have hfz52_3 := blk_frozen BK258.out 3
      have hfz52_4 := blk_frozen BK258.out 4
      go_upto_block 2 with (fail)
      repeat (go_quiet (fail); go_upto_block 2 with (fail))
      go_cut [13] (fun v13 wc => ∃ (kq : Nat) (x13_48 : Int), v13 = .int .i64 x13_48 ∧ Aside0 (interlocutorlaw6_LexPlaces.j3 kq t248 t254 x11_1 x13_48 ((rd_T47 t254 x11_1).f0) ((rd_T47 t254 x11_1).f1) ((rd_T47 t254 x11_1).f2) ((rd_T47 t254 x11_1).f3) ((rd_T47 t254 x11_1).f4) = some r) ∧ Aside0 (kq ≤ kj30) ∧ Aside0 (Kd.R (Kd.int .i64) 3 wc w.heap.size (fun _ => True) (.slice Ao27 t248.length co27) t248) ∧ Aside0 (Kd.R k47 47 wc w.heap.size (fun k_ => k_ ≠ gb258) (.slice (some ad257) t254.length co32) t254) ∧ Aside0 (Kd.V k53 53 wc w.heap.size (fun k_ => some k_ ≠ ((.slice Ao27 t248.length co27) : Value).ownBlock ∧ some k_ ≠ ((.slice (some ad257) t254.length co32) : Value).ownBlock ∧ k_ ≠ gb231 ∧ k_ ≠ gb246 ∧ k_ ≠ gb258) (.slice Ao21 t237.length co21) t237) ∧ Aside0 (Kd.V k108 108 wc w.heap.size (fun k_ => some k_ ≠ ((.slice Ao27 t248.length co27) : Value).ownBlock ∧ some k_ ≠ ((.slice (some ad257) t254.length co32) : Value).ownBlock ∧ k_ ≠ gb231 ∧ k_ ≠ gb246 ∧ k_ ≠ gb258) (.slice Ao22 t240.length co22) t240) ∧ Aside0 (Kd.V k138 138 wc w.heap.size (fun k_ => some k_ ≠ ((.slice Ao27 t248.length co27) : Value).ownBlock ∧ some k_ ≠ ((.slice (some ad257) t254.length co32) : Value).ownBlock ∧ k_ ≠ gb231 ∧ k_ ≠ gb246 ∧ k_ ≠ gb258) (.slice Ao23 t243.length co23) t243) ∧ Aside0 (wc.heap[gb231]? = some (.cells #[.int .i64 a0_0, .int .i64 a0_1, .int .i64 a0_2, .int .i64 a0_3, (.slice A0_4 l0_4.length c0_4), .bool a0_5] 24 (0, 0))) ∧ Aside0 (wc.heap[gb246]? = some (.cells #[.string t234, .int .i64 t235, .int .i64 t236, (.slice Ao21 t237.length co21), (.slice Ao22 t240.length co22), (.slice Ao23 t243.length co23)] 32 (0, 0))) ∧ Aside0 (wc.heap[gb258]? = some (.cells #[.int .i64 ((rd_T47 t254 x11_1).f0), .int .i64 ((rd_T47 t254 x11_1).f1), .int .i64 ((rd_T47 t254 x11_1).f2), .int .i64 ((rd_T47 t254 x11_1).f3), .int .i64 ((rd_T47 t254 x11_1).f4)] 47 (0, 0))) ∧ Aside0 (Below w.heap.size w wc))
      case first =>
       have H := HC49.out
       clear HC49
       have H' := Aside0.mk H
       clear H
       go_wp2
       repeat (go_quiet (fail); try go_wp2)
       go_loopg [13] kj30 (fun kq v13 w' => ∃ (x13_3 : Int), v13 = .int .i64 x13_3 ∧ Aside0 (interlocutorlaw6_LexPlaces.l1 kq t248 t254 x11_1 x13_3 ((rd_T47 t254 x11_1).f0) ((rd_T47 t254 x11_1).f1) ((rd_T47 t254 x11_1).f2) ((rd_T47 t254 x11_1).f3) ((rd_T47 t254 x11_1).f4) = some r) ∧ Aside0 (kq ≤ kj30) ∧ Aside0 (Kd.R (Kd.int .i64) 3 w' w.heap.size (fun _ => True) (.slice Ao27 t248.length co27) t248) ∧ Aside0 (Kd.R k47 47 w' w.heap.size (fun k_ => k_ ≠ gb258) (.slice (some ad257) t254.length co32) t254) ∧ Aside0 (Kd.V k53 53 w' w.heap.size (fun k_ => some k_ ≠ ((.slice Ao27 t248.length co27) : Value).ownBlock ∧ some k_ ≠ ((.slice (some ad257) t254.length co32) : Value).ownBlock ∧ k_ ≠ gb231 ∧ k_ ≠ gb246 ∧ k_ ≠ gb258) (.slice Ao21 t237.length co21) t237) ∧ Aside0 (Kd.V k108 108 w' w.heap.size (fun k_ => some k_ ≠ ((.slice Ao27 t248.length co27) : Value).ownBlock ∧ some k_ ≠ ((.slice (some ad257) t254.length co32) : Value).ownBlock ∧ k_ ≠ gb231 ∧ k_ ≠ gb246 ∧ k_ ≠ gb258) (.slice Ao22 t240.length co22) t240) ∧ Aside0 (Kd.V k138 138 w' w.heap.size (fun k_ => some k_ ≠ ((.slice Ao27 t248.length co27) : Value).ownBlock ∧ some k_ ≠ ((.slice (some ad257) t254.length co32) : Value).ownBlock ∧ k_ ≠ gb231 ∧ k_ ≠ gb246 ∧ k_ ≠ gb258) (.slice Ao23 t243.length co23) t243) ∧ Aside0 (w'.heap[gb231]? = some (.cells #[.int .i64 a0_0, .int .i64 a0_1, .int .i64 a0_2, .int .i64 a0_3, (.slice A0_4 l0_4.length c0_4), .bool a0_5] 24 (0, 0))) ∧ Aside0 (w'.heap[gb246]? = some (.cells #[.string t234, .int .i64 t235, .int .i64 t236, (.slice Ao21 t237.length co21), (.slice Ao22 t240.length co22), (.slice Ao23 t243.length co23)] 32 (0, 0))) ∧ Aside0 (w'.heap[gb258]? = some (.cells #[.int .i64 ((rd_T47 t254 x11_1).f0), .int .i64 ((rd_T47 t254 x11_1).f1), .int .i64 ((rd_T47 t254 x11_1).f2), .int .i64 ((rd_T47 t254 x11_1).f3), .int .i64 ((rd_T47 t254 x11_1).f4)] 47 (0, 0))) ∧ Aside0 (Below w.heap.size w w'))
       case atStart => exact ⟨(((rd_T47 t254 x11_1).f0)), (by first | rfl | (simp; done) | (simp [*]; done)), H', ⟨Nat.le_refl _⟩, ⟨by exact rU HO_8.out⟩, ⟨by exact rU HO_10.out⟩, ⟨by exact vU HO_247003.out⟩, ⟨by exact vU HO_247004.out⟩, ⟨by exact vU HO_247005.out⟩, ⟨by (with_reducible repeat (first | refine blk_drewN ?_ _ | refine blk_drew ?_ | refine blk_alloc ?_ _)); exact BK231.out⟩, ⟨by (with_reducible repeat (first | refine blk_drewN ?_ _ | refine blk_drew ?_ | refine blk_alloc ?_ _)); exact BK246.out⟩, ⟨by (with_reducible repeat (first | refine blk_drewN ?_ _ | refine blk_drew ?_ | refine blk_alloc ?_ _)); exact BK258.out⟩, ⟨by repeat (first | (with_reducible first | exact HB.out | apply below_alloc | apply pw_below_drewN | apply below_drew1 | refine below_set ?_ GE231.out | refine below_set ?_ GE246.out | refine below_set ?_ GE258.out) | exact HB.out)⟩⟩
       case round =>
        clear H'
        try clear c1
        try clear c2
        try clear p2
        try clear q2
        try clear hx2
        try clear c3
        try clear c4
        try clear c5
        try clear c7
        try clear c19
        try clear p25
        try clear q25
        try clear hx25
        try clear c29
        try clear c29b0
        try clear c30
        try clear c30b0
        try clear c34
        try clear c35
        try clear c37
        try clear c37b0
        try clear c38
        try clear c39
        try clear c41
        try clear c41b0
        try clear c42
        try clear c43
        try clear c45
        try clear c46
        try clear c48
        try clear c50
        try clear c51
        try clear hcz14_0
        try clear hcz14_1
        try clear hcz14_2
        try clear hcz14_3
        try clear hcz14_4
        try clear hcz14_5
        try clear hcz16_0
        try clear hcz16_1
        try clear hcz16_2
        try clear hcz16_3
        try clear hcz16_4
        try clear hcz16_5
        try clear hcz20_0
        try clear hcz20_1
        try clear hcz20_2
        try clear hcz20_3
        try clear hcz20_4
        try clear hcz20_5
        try clear hcz26_0
        try clear hcz26_1
        try clear hcz26_2
        try clear hcz26_3
        try clear hcz26_4
        try clear hcz26_5
        try clear hcz36_0
        try clear hcz36_1
        try clear hcz36_2
        try clear hcz36_3
        try clear hcz36_4
        try clear hcz40_0
        try clear hcz40_1
        try clear hcz40_2
        try clear hcz40_3
        try clear hcz40_4
        try clear hcz44_0
        try clear hcz44_1
        try clear hcz44_2
        try clear hcz44_3
        try clear hcz44_4
        try clear hcz47_0
        try clear hcz47_1
        try clear hcz47_2
        try clear hcz47_3
        try clear hcz47_4
        try clear hcz52_0
        try clear hcz52_1
        try clear hcz52_2
        try clear hcz52_3
        try clear hcz52_4
        try clear hfz14_0
        try clear hfz14_1
        try clear hfz14_2
        try clear hfz14_3
        try clear hfz14_4
        try clear hfz14_5
        try clear hfz16_0
        try clear hfz16_1
        try clear hfz16_2
        try clear hfz16_3
        try clear hfz16_4
        try clear hfz16_5
        try clear hfz20_0
        try clear hfz20_1
        try clear hfz20_2
        try clear hfz20_3
        try clear hfz20_4
        try clear hfz20_5
        try clear hfz26_0
        try clear hfz26_1
        try clear hfz26_2
        try clear hfz26_3
        try clear hfz26_4
        try clear hfz26_5
        try clear hfz36_0
        try clear hfz36_1
        try clear hfz36_2
        try clear hfz36_3
        try clear hfz36_4
        try clear hfz40_0
        try clear hfz40_1
        try clear hfz40_2
        try clear hfz40_3
        try clear hfz40_4
        try clear hfz44_0
        try clear hfz44_1
        try clear hfz44_2
        try clear hfz44_3
        try clear hfz44_4
        try clear hfz47_0
        try clear hfz47_1
        try clear hfz47_2
        try clear hfz47_3
        try clear hfz47_4
        try clear hfz52_0
        try clear hfz52_1
        try clear hfz52_2
        try clear hfz52_3
        try clear hfz52_4
        try clear hx257_0
        try clear hx257_1
        try clear hx257_2
        try clear hx257_3
        try clear hx257_4
        try clear p2
        try clear p25
        try clear p257
        try clear q2
        try clear q25
        try clear q257
        obtain ⟨x13_3, rfl, HA, HK3, HO_8, HO_10, HO_247003, HO_247004, HO_247005, BK231, BK246, BK258, HB⟩ := hrel
        cases gk with
        | zero => exact absurd HA.out (by simp [interlocutorlaw6_LexPlaces.l1])
        | succ k3 =>
         have H := HA.out
         clear HA
         simp only [interlocutorlaw6_LexPlaces.l1] at H
         by_cases c53 : x13_3 < ((rd_T47 t254 x11_1).f1)
         rotate_left
         · rw [if_neg c53] at H
           have c53b0 : decide (x13_3 < ((rd_T47 t254 x11_1).f1)) = false := decide_eq_false c53
           clear c53
           (first | rw [c53b0] | (simp only [i64_w, i32_w]; rw [c53b0]) | skip)
           have H' := Aside0.mk H
           clear H
           have hnb63 := NB258_231.out
           have hnc63 := NB231_258.out
           have hnb64 := NB258_246.out
           have hnc64 := NB246_258.out
           have hcz65_0 : wr.cell? ⟨gb258, 0, none⟩ = some (.int .i64 ((rd_T47 t254 x11_1).f0)) := (blk_cell BK258.out 0).trans rfl
           have hcz65_1 : wr.cell? ⟨gb258, 1, none⟩ = some (.int .i64 ((rd_T47 t254 x11_1).f1)) := (blk_cell BK258.out 1).trans rfl
           have hcz65_2 : wr.cell? ⟨gb258, 2, none⟩ = some (.int .i64 ((rd_T47 t254 x11_1).f2)) := (blk_cell BK258.out 2).trans rfl
           have hcz65_3 : wr.cell? ⟨gb258, 3, none⟩ = some (.int .i64 ((rd_T47 t254 x11_1).f3)) := (blk_cell BK258.out 3).trans rfl
           have hcz65_4 : wr.cell? ⟨gb258, 4, none⟩ = some (.int .i64 ((rd_T47 t254 x11_1).f4)) := (blk_cell BK258.out 4).trans rfl
           have hfz65_0 := blk_frozen BK258.out 0
           have hfz65_1 := blk_frozen BK258.out 1
           have hfz65_2 := blk_frozen BK258.out 2
           have hfz65_3 := blk_frozen BK258.out 3
           have hfz65_4 := blk_frozen BK258.out 4
           go_wp2
           repeat (go_quiet (fail); try go_wp2)
           go_meet
           case rel => exact ⟨_, (x13_3), (by first | rfl | (simp; done) | (simp [*]; done)), H', ⟨by have := HK1.out; have := HJ30.out; have := HK3.out; first | omega | exact Nat.le_refl _⟩, ⟨by exact rU HO_8.out⟩, ⟨by exact rU HO_10.out⟩, ⟨by exact vU HO_247003.out⟩, ⟨by exact vU HO_247004.out⟩, ⟨by exact vU HO_247005.out⟩, ⟨by (with_reducible repeat (first | refine blk_drewN ?_ _ | refine blk_drew ?_ | refine blk_alloc ?_ _)); exact BK231.out⟩, ⟨by (with_reducible repeat (first | refine blk_drewN ?_ _ | refine blk_drew ?_ | refine blk_alloc ?_ _)); exact BK246.out⟩, ⟨by (with_reducible repeat (first | refine blk_drewN ?_ _ | refine blk_drew ?_ | refine blk_alloc ?_ _)); exact BK258.out⟩, ⟨by repeat (first | (with_reducible first | exact HB.out | apply below_alloc | apply pw_below_drewN | apply below_drew1 | refine below_set ?_ GE231.out | refine below_set ?_ GE246.out | refine below_set ?_ GE258.out) | exact HB.out)⟩⟩
         rw [if_pos c53] at H
         have c53b0 : decide (x13_3 < ((rd_T47 t254 x11_1).f1)) = true := decide_eq_true c53
         clear c53
         (first | rw [c53b0] | (simp only [i64_w, i32_w]; rw [c53b0]) | skip)
         by_cases c54 : 0 ≤ x13_3
         rotate_left
         · rw [if_neg c54] at H
           exact absurd H (by simp)
         rw [if_pos c54] at H
         have c54b0 : decide (0 ≤ x13_3) = true := decide_eq_true c54
         clear c54
         by_cases c55 : x13_3 < (t248.length : Int)
         rotate_left
         · rw [if_neg c55] at H
           exact absurd H (by simp)
         rw [if_pos c55] at H
         have c55b0 : decide (x13_3 < (t248.length : Int)) = true := decide_eq_true c55
         clear c55
         by_cases c56 : (rd t248 x13_3) = 32
         rotate_left
         · rw [if_neg c56] at H
           have c56b0 : ((rd t248 x13_3) == 32) = false := beq_eq_false_iff_ne.mpr c56
           have c56b1 : ((rd t248 x13_3) != 32) = true := bne_iff_ne.mpr c56
           have H' := Aside0.mk H
           clear H
           have hnb60 := NB258_231.out
           have hnc60 := NB231_258.out
           have hnb61 := NB258_246.out
           have hnc61 := NB246_258.out
           have hcz62_0 : wr.cell? ⟨gb258, 0, none⟩ = some (.int .i64 ((rd_T47 t254 x11_1).f0)) := (blk_cell BK258.out 0).trans rfl
           have hcz62_1 : wr.cell? ⟨gb258, 1, none⟩ = some (.int .i64 ((rd_T47 t254 x11_1).f1)) := (blk_cell BK258.out 1).trans rfl
           have hcz62_2 : wr.cell? ⟨gb258, 2, none⟩ = some (.int .i64 ((rd_T47 t254 x11_1).f2)) := (blk_cell BK258.out 2).trans rfl
           have hcz62_3 : wr.cell? ⟨gb258, 3, none⟩ = some (.int .i64 ((rd_T47 t254 x11_1).f3)) := (blk_cell BK258.out 3).trans rfl
           have hcz62_4 : wr.cell? ⟨gb258, 4, none⟩ = some (.int .i64 ((rd_T47 t254 x11_1).f4)) := (blk_cell BK258.out 4).trans rfl
           have hfz62_0 := blk_frozen BK258.out 0
           have hfz62_1 := blk_frozen BK258.out 1
           have hfz62_2 := blk_frozen BK258.out 2
           have hfz62_3 := blk_frozen BK258.out 3
           have hfz62_4 := blk_frozen BK258.out 4
           have p259 : 0 ≤ (x13_3 : Int) := of_decide_eq_true (by first | (with_reducible assumption) | assumption)
           have q259 : x13_3 < (t248.length : Int) := of_decide_eq_true (by first | (with_reducible assumption) | assumption)
           obtain ⟨ad259, e259, hx259_0⟩ := Kd.at_int (Kd.R_reads' HO_8.out).2.2 x13_3 p259 q259
           cases e259
           replace p259 := eq_true p259
           replace q259 := eq_true q259
           go_wp2
           repeat (go_quiet (fail); try go_wp2)
           go_meet
           case rel => exact ⟨_, (x13_3), (by first | rfl | (simp; done) | (simp [*]; done)), H', ⟨by have := HK1.out; have := HJ30.out; have := HK3.out; first | omega | exact Nat.le_refl _⟩, ⟨by exact rU HO_8.out⟩, ⟨by exact rU HO_10.out⟩, ⟨by exact vU HO_247003.out⟩, ⟨by exact vU HO_247004.out⟩, ⟨by exact vU HO_247005.out⟩, ⟨by (with_reducible repeat (first | refine blk_drewN ?_ _ | refine blk_drew ?_ | refine blk_alloc ?_ _)); exact BK231.out⟩, ⟨by (with_reducible repeat (first | refine blk_drewN ?_ _ | refine blk_drew ?_ | refine blk_alloc ?_ _)); exact BK246.out⟩, ⟨by (with_reducible repeat (first | refine blk_drewN ?_ _ | refine blk_drew ?_ | refine blk_alloc ?_ _)); exact BK258.out⟩, ⟨by repeat (first | (with_reducible first | exact HB.out | apply below_alloc | apply pw_below_drewN | apply below_drew1 | refine below_set ?_ GE231.out | refine below_set ?_ GE246.out | refine below_set ?_ GE258.out) | exact HB.out)⟩⟩
         rw [if_pos c56] at H
         have c56b0 : ((rd t248 x13_3) == 32) = true := beq_iff_eq.mpr c56
         have c56b1 : ((rd t248 x13_3) != 32) = false := bne_eq_false_iff_eq.mpr c56
         clear c56
         have H' := Aside0.mk H
         clear H
         have hnb57 := NB258_231.out
         have hnc57 := NB231_258.out
         have hnb58 := NB258_246.out
         have hnc58 := NB246_258.out
         have hcz59_0 : wr.cell? ⟨gb258, 0, none⟩ = some (.int .i64 ((rd_T47 t254 x11_1).f0)) := (blk_cell BK258.out 0).trans rfl
         have hcz59_1 : wr.cell? ⟨gb258, 1, none⟩ = some (.int .i64 ((rd_T47 t254 x11_1).f1)) := (blk_cell BK258.out 1).trans rfl
         have hcz59_2 : wr.cell? ⟨gb258, 2, none⟩ = some (.int .i64 ((rd_T47 t254 x11_1).f2)) := (blk_cell BK258.out 2).trans rfl
         have hcz59_3 : wr.cell? ⟨gb258, 3, none⟩ = some (.int .i64 ((rd_T47 t254 x11_1).f3)) := (blk_cell BK258.out 3).trans rfl
         have hcz59_4 : wr.cell? ⟨gb258, 4, none⟩ = some (.int .i64 ((rd_T47 t254 x11_1).f4)) := (blk_cell BK258.out 4).trans rfl
         have hfz59_0 := blk_frozen BK258.out 0
         have hfz59_1 := blk_frozen BK258.out 1
         have hfz59_2 := blk_frozen BK258.out 2
         have hfz59_3 := blk_frozen BK258.out 3
         have hfz59_4 := blk_frozen BK258.out 4
         have p259 : 0 ≤ (x13_3 : Int) := of_decide_eq_true (by first | (with_reducible assumption) | assumption)
         have q259 : x13_3 < (t248.length : Int) := of_decide_eq_true (by first | (with_reducible assumption) | assumption)
         obtain ⟨ad259, e259, hx259_0⟩ := Kd.at_int (Kd.R_reads' HO_8.out).2.2 x13_3 p259 q259
         cases e259
         replace p259 := eq_true p259
         replace q259 := eq_true q259
         go_wp2
         repeat (go_quiet (fail); try go_wp2)
         go_roundg k3
         case measure => have := HK1.out; have := HJ30.out; have := HK3.out; omega
         case rel => exact ⟨(wrap64 (x13_3 + 1)), (by first | rfl | (simp; done) | (simp [*]; done)), H', ⟨by have := HK1.out; have := HJ30.out; have := HK3.out; omega⟩, ⟨by exact rU HO_8.out⟩, ⟨by exact rU HO_10.out⟩, ⟨by exact vU HO_247003.out⟩, ⟨by exact vU HO_247004.out⟩, ⟨by exact vU HO_247005.out⟩, ⟨by (with_reducible repeat (first | refine blk_drewN ?_ _ | refine blk_drew ?_ | refine blk_alloc ?_ _)); exact BK231.out⟩, ⟨by (with_reducible repeat (first | refine blk_drewN ?_ _ | refine blk_drew ?_ | refine blk_alloc ?_ _)); exact BK246.out⟩, ⟨by (with_reducible repeat (first | refine blk_drewN ?_ _ | refine blk_drew ?_ | refine blk_alloc ?_ _)); exact BK258.out⟩, ⟨by repeat (first | (with_reducible first | exact HB.out | apply below_alloc | apply pw_below_drewN | apply below_drew1 | refine below_set ?_ GE231.out | refine below_set ?_ GE246.out | refine below_set ?_ GE258.out) | exact HB.out)⟩⟩
      case rest =>
       clear HC49
       try clear c1
       try clear c2
       try clear p2
       try clear q2
       try clear hx2
       try clear c3
       try clear c4
       try clear c5
       try clear c6
       try clear p6
       try clear c7
       try clear c19
       try clear p25
       try clear q25
       try clear hx25
       try clear c29
       try clear c29b0
       try clear c30
       try clear c30b0
       try clear c34
       try clear c35
       try clear c37
       try clear c37b0
       try clear c38
       try clear c39
       try clear c41
       try clear c41b0
       try clear c42
       try clear c43
       try clear c45
       try clear c46
       try clear c48
       try clear c50
       try clear c51
       try clear c53
       try clear c53b0
       try clear c54
       try clear c54b0
       try clear c55
       try clear c55b0
       try clear c56
       try clear c56b0
       try clear c56b1
       try clear c57
       try clear c58
       try clear c60
       try clear c61
       try clear c63
       try clear c64
       try clear p64
       try clear hcz14_0
       try clear hcz14_1
       try clear hcz14_2
       try clear hcz14_3
       try clear hcz14_4
       try clear hcz14_5
       try clear hcz16_0
       try clear hcz16_1
       try clear hcz16_2
       try clear hcz16_3
       try clear hcz16_4
       try clear hcz16_5
       try clear hcz20_0
       try clear hcz20_1
       try clear hcz20_2
       try clear hcz20_3
       try clear hcz20_4
       try clear hcz20_5
       try clear hcz26_0
       try clear hcz26_1
       try clear hcz26_2
       try clear hcz26_3
       try clear hcz26_4
       try clear hcz26_5
       try clear hcz36_0
       try clear hcz36_1
       try clear hcz36_2
       try clear hcz36_3
       try clear hcz36_4
       try clear hcz40_0
       try clear hcz40_1
       try clear hcz40_2
       try clear hcz40_3
       try clear hcz40_4
       try clear hcz44_0
       try clear hcz44_1
       try clear hcz44_2
       try clear hcz44_3
       try clear hcz44_4
       try clear hcz47_0
       try clear hcz47_1
       try clear hcz47_2
       try clear hcz47_3
       try clear hcz47_4
       try clear hcz52_0
       try clear hcz52_1
       try clear hcz52_2
       try clear hcz52_3
       try clear hcz52_4
       try clear hcz59_0
       try clear hcz59_1
       try clear hcz59_2
       try clear hcz59_3
       try clear hcz59_4
       try clear hcz62_0
       try clear hcz62_1
       try clear hcz62_2
       try clear hcz62_3
       try clear hcz62_4
       try clear hcz65_0
       try clear hcz65_1
       try clear hcz65_2
       try clear hcz65_3
       try clear hcz65_4
       try clear hfz14_0
       try clear hfz14_1
       try clear hfz14_2
       try clear hfz14_3
       try clear hfz14_4
       try clear hfz14_5
       try clear hfz16_0
       try clear hfz16_1
       try clear hfz16_2
       try clear hfz16_3
       try clear hfz16_4
       try clear hfz16_5
       try clear hfz20_0
       try clear hfz20_1
       try clear hfz20_2
       try clear hfz20_3
       try clear hfz20_4
       try clear hfz20_5
       try clear hfz26_0
       try clear hfz26_1
       try clear hfz26_2
       try clear hfz26_3
       try clear hfz26_4
       try clear hfz26_5
       try clear hfz36_0
       try clear hfz36_1
       try clear hfz36_2
       try clear hfz36_3
       try clear hfz36_4
       try clear hfz40_0
       try clear hfz40_1
       try clear hfz40_2
       try clear hfz40_3
       try clear hfz40_4
       try clear hfz44_0
       try clear hfz44_1
       try clear hfz44_2
       try clear hfz44_3
       try clear hfz44_4
       try clear hfz47_0
       try clear hfz47_1
       try clear hfz47_2
       try clear hfz47_3
       try clear hfz47_4
       try clear hfz52_0
       try clear hfz52_1
       try clear hfz52_2
       try clear hfz52_3
       try clear hfz52_4
       try clear hfz59_0
       try clear hfz59_1
       try clear hfz59_2
       try clear hfz59_3
       try clear hfz59_4
       try clear hfz62_0
       try clear hfz62_1
       try clear hfz62_2
       try clear hfz62_3
       try clear hfz62_4
       try clear hfz65_0
       try clear hfz65_1
       try clear hfz65_2
       try clear hfz65_3
       try clear hfz65_4
       try clear hx257_0
       try clear hx257_1
       try clear hx257_2
       try clear hx257_3
       try clear hx257_4
       try clear hx259_0
       try clear p2
       try clear p25
       try clear p257
       try clear p259
       try clear q2
       try clear q25
       try clear q257
       try clear q259
       obtain ⟨kq, x13_48, rfl, HA, HJ48, HO_8, HO_10, HO_247003, HO_247004, HO_247005, BK231, BK246, BK258, HB⟩ := hcut
       cases kq with
       | zero => exact absurd HA.out (by simp [interlocutorlaw6_LexPlaces.j3])
       | succ kj48 =>
        have H := HA.out
        clear HA
        simp only [interlocutorlaw6_LexPlaces.j3] at H
        by_cases c66 : x13_48 = ((rd_T47 t254 x11_1).f1)
        · rw [if_pos c66] at H
          have c66b0 : (x13_48 == ((rd_T47 t254 x11_1).f1)) = true := beq_iff_eq.mpr c66
          have c66b1 : (x13_48 != ((rd_T47 t254 x11_1).f1)) = false := bne_eq_false_iff_eq.mpr c66
          clear c66
          obtain rfl := Option.some.inj H
          have hnb67 := NB258_231.out
          have hnc67 := NB231_258.out
          have hnb68 := NB258_246.out
          have hnc68 := NB246_258.out
          have hcz69_0 : wc.cell? ⟨gb258, 0, none⟩ = some (.int .i64 ((rd_T47 t254 x11_1).f0)) := (blk_cell BK258.out 0).trans rfl
          have hcz69_1 : wc.cell? ⟨gb258, 1, none⟩ = some (.int .i64 ((rd_T47 t254 x11_1).f1)) := (blk_cell BK258.out 1).trans rfl
          have hcz69_2 : wc.cell? ⟨gb258, 2, none⟩ = some (.int .i64 ((rd_T47 t254 x11_1).f2)) := (blk_cell BK258.out 2).trans rfl
          have hcz69_3 : wc.cell? ⟨gb258, 3, none⟩ = some (.int .i64 ((rd_T47 t254 x11_1).f3)) := (blk_cell BK258.out 3).trans rfl
          have hcz69_4 : wc.cell? ⟨gb258, 4, none⟩ = some (.int .i64 ((rd_T47 t254 x11_1).f4)) := (blk_cell BK258.out 4).trans rfl
          have hfz69_0 := blk_frozen BK258.out 0
          have hfz69_1 := blk_frozen BK258.out 1
          have hfz69_2 := blk_frozen BK258.out 2
          have hfz69_3 := blk_frozen BK258.out 3
          have hfz69_4 := blk_frozen BK258.out 4
          go_wp2
          repeat (go_quiet (fail); try go_wp2)
          go_ret
          exact ⟨by first | rfl | (simp [errW_none, errW_some] <;> rfl) | (simp [*, errW_none, errW_some] <;> rfl), by repeat (first | (with_reducible first | exact HB.out | apply below_alloc | apply pw_below_drewN | apply below_drew1 | refine below_set ?_ GE231.out | refine below_set ?_ GE246.out | refine below_set ?_ GE258.out) | exact HB.out)⟩
        rw [if_neg c66] at H
        have c66b0 : (x13_48 == ((rd_T47 t254 x11_1).f1)) = false := beq_eq_false_iff_ne.mpr c66
        have c66b1 : (x13_48 != ((rd_T47 t254 x11_1).f1)) = true := bne_iff_ne.mpr c66
        by_cases c70 : ((rd_T47 t254 x11_1).f2) = 0
        rotate_left
        · rw [if_neg c70] at H
          have c70b0 : (((rd_T47 t254 x11_1).f2) == 0) = false := beq_eq_false_iff_ne.mpr c70
          have c70b1 : (((rd_T47 t254 x11_1).f2) != 0) = true := bne_iff_ne.mpr c70
          by_cases c128 : x11_1 > 0
          rotate_left
          · rw [if_neg c128] at H
            have c128b0 : decide (0 < x11_1) = false := decide_eq_false c128
            clear c128
            have H' := Aside0.mk H
            clear H
            have hnb143 := NB258_231.out
            have hnc143 := NB231_258.out
            have hnb144 := NB258_246.out
            have hnc144 := NB246_258.out
            have hcz145_0 : wc.cell? ⟨gb258, 0, none⟩ = some (.int .i64 ((rd_T47 t254 x11_1).f0)) := (blk_cell BK258.out 0).trans rfl
            have hcz145_1 : wc.cell? ⟨gb258, 1, none⟩ = some (.int .i64 ((rd_T47 t254 x11_1).f1)) := (blk_cell BK258.out 1).trans rfl
            have hcz145_2 : wc.cell? ⟨gb258, 2, none⟩ = some (.int .i64 ((rd_T47 t254 x11_1).f2)) := (blk_cell BK258.out 2).trans rfl
            have hcz145_3 : wc.cell? ⟨gb258, 3, none⟩ = some (.int .i64 ((rd_T47 t254 x11_1).f3)) := (blk_cell BK258.out 3).trans rfl
            have hcz145_4 : wc.cell? ⟨gb258, 4, none⟩ = some (.int .i64 ((rd_T47 t254 x11_1).f4)) := (blk_cell BK258.out 4).trans rfl
            have hfz145_0 := blk_frozen BK258.out 0
            have hfz145_1 := blk_frozen BK258.out 1
            have hfz145_2 := blk_frozen BK258.out 2
            have hfz145_3 := blk_frozen BK258.out 3
            have hfz145_4 := blk_frozen BK258.out 4
            go_wp2
            repeat (go_quiet (fail); try go_wp2)
            go_roundg kj48
            case measure => have := HK1.out; have := HJ30.out; have := HJ48.out; omega
            case rel => exact ⟨(wrap64 (x11_1 + 1)), (by first | rfl | (simp; done) | (simp [*]; done)), H', ⟨by have := HK1.out; have := HJ30.out; have := HJ48.out; omega⟩, ⟨by exact rU HO_8.out⟩, ⟨by exact rU (Kd.R_mono HO_10.out (fun _ hk => trivial))⟩, ⟨by exact vU (Kd.V_mono HO_247003.out (fun _ hk => ⟨hk.1, ⟨hk.2.1, ⟨hk.2.2.1, hk.2.2.2.1⟩⟩⟩))⟩, ⟨by exact vU (Kd.V_mono HO_247004.out (fun _ hk => ⟨hk.1, ⟨hk.2.1, ⟨hk.2.2.1, hk.2.2.2.1⟩⟩⟩))⟩, ⟨by exact vU (Kd.V_mono HO_247005.out (fun _ hk => ⟨hk.1, ⟨hk.2.1, ⟨hk.2.2.1, hk.2.2.2.1⟩⟩⟩))⟩, ⟨by (with_reducible repeat (first | refine blk_drewN ?_ _ | refine blk_drew ?_ | refine blk_alloc ?_ _)); exact BK231.out⟩, ⟨by (with_reducible repeat (first | refine blk_drewN ?_ _ | refine blk_drew ?_ | refine blk_alloc ?_ _)); exact BK246.out⟩, ⟨by repeat (first | (with_reducible first | exact HB.out | apply below_alloc | apply pw_below_drewN | apply below_drew1 | refine below_set ?_ GE231.out | refine below_set ?_ GE246.out | refine below_set ?_ GE258.out) | exact HB.out)⟩⟩
          rw [if_pos c128] at H
          have c128b0 : decide (0 < x11_1) = true := decide_eq_true c128
          clear c128
          obtain ⟨ji129, hji129⟩ : ∃ j_ : Int, (wrap64 (x11_1 - 1)) = j_ := ⟨_, rfl⟩
          replace H : (if 0 ≤ (ji129) then (if (ji129) < (t254.length : Int) then (if ((rd_T47 t254 (ji129)).f0) > ((rd_T47 t254 x11_1).f0) then (some false) else (if (((rd_T47 t254 (ji129)).f0) == ((rd_T47 t254 x11_1).f0) && (((rd_T47 t254 (ji129)).f1) == ((rd_T47 t254 x11_1).f1) && (((rd_T47 t254 (ji129)).f2) == ((rd_T47 t254 x11_1).f2) && (((rd_T47 t254 (ji129)).f3) == ((rd_T47 t254 x11_1).f3) && (((rd_T47 t254 (ji129)).f4) == ((rd_T47 t254 x11_1).f4)))))) = true then (some false) else (interlocutorlaw6_LexPlaces.l0 kj48 t248 t254 (wrap64 (x11_1 + 1))))) else (none)) else (none)) = some r := by first | (rw [hji129] at H; exact H) | (simp only [hji129] at H ⊢; exact H)
          have hji129w : (IntKind.i64.wrap (x11_1 - 1)) = ji129 := (i64_w _).trans hji129
          by_cases c130 : 0 ≤ (ji129)
          rotate_left
          · rw [if_neg c130] at H
            exact absurd H (by simp)
          rw [if_pos c130] at H
          have c130b0 : decide (0 ≤ (ji129)) = true := decide_eq_true c130
          clear c130
          by_cases c131 : (ji129) < (t254.length : Int)
          rotate_left
          · rw [if_neg c131] at H
            exact absurd H (by simp)
          rw [if_pos c131] at H
          have c131b0 : decide ((ji129) < (t254.length : Int)) = true := decide_eq_true c131
          clear c131
          by_cases c132 : ((rd_T47 t254 (ji129)).f0) > ((rd_T47 t254 x11_1).f0)
          · rw [if_pos c132] at H
            have c132b0 : decide (((rd_T47 t254 x11_1).f0) < ((rd_T47 t254 (ji129)).f0)) = true := decide_eq_true c132
            clear c132
            obtain rfl := Option.some.inj H
            have hnb133 := NB258_231.out
            have hnc133 := NB231_258.out
            have hnb134 := NB258_246.out
            have hnc134 := NB246_258.out
            have hcz135_0 : wc.cell? ⟨gb258, 0, none⟩ = some (.int .i64 ((rd_T47 t254 x11_1).f0)) := (blk_cell BK258.out 0).trans rfl
            have hcz135_1 : wc.cell? ⟨gb258, 1, none⟩ = some (.int .i64 ((rd_T47 t254 x11_1).f1)) := (blk_cell BK258.out 1).trans rfl
            have hcz135_2 : wc.cell? ⟨gb258, 2, none⟩ = some (.int .i64 ((rd_T47 t254 x11_1).f2)) := (blk_cell BK258.out 2).trans rfl
            have hcz135_3 : wc.cell? ⟨gb258, 3, none⟩ = some (.int .i64 ((rd_T47 t254 x11_1).f3)) := (blk_cell BK258.out 3).trans rfl
            have hcz135_4 : wc.cell? ⟨gb258, 4, none⟩ = some (.int .i64 ((rd_T47 t254 x11_1).f4)) := (blk_cell BK258.out 4).trans rfl
            have hfz135_0 := blk_frozen BK258.out 0
            have hfz135_1 := blk_frozen BK258.out 1
            have hfz135_2 := blk_frozen BK258.out 2
            have hfz135_3 := blk_frozen BK258.out 3
            have hfz135_4 := blk_frozen BK258.out 4
            have p267 : 0 ≤ ((ji129) : Int) := of_decide_eq_true (by first | (with_reducible assumption) | assumption)
            have q267 : (ji129) < (t254.length : Int) := of_decide_eq_true (by first | (with_reducible assumption) | assumption)
            obtain ⟨ad267, e267, hx267_0, hx267_1, hx267_2, hx267_3, hx267_4⟩ := at_T47 (Kd.R_reads' HO_10.out).2.2 (ji129) p267 q267
            obtain rfl : ad257 = ad267 := (by injection e267)
            replace p267 := eq_true p267
            replace q267 := eq_true q267
            go_wp2
            repeat (go_quiet (fail); try go_wp2)
            go_ret
            exact ⟨by first | rfl | (simp [errW_none, errW_some] <;> rfl) | (simp only [← hji129]; first | rfl | (simp [errW_none, errW_some] <;> rfl)) | (simp [*, errW_none, errW_some] <;> rfl), by repeat (first | (with_reducible first | exact HB.out | apply below_alloc | apply pw_below_drewN | apply below_drew1 | refine below_set ?_ GE231.out | refine below_set ?_ GE246.out | refine below_set ?_ GE258.out) | exact HB.out)⟩
          rw [if_neg c132] at H
          have c132b0 : decide (((rd_T47 t254 x11_1).f0) < ((rd_T47 t254 (ji129)).f0)) = false := decide_eq_false c132
          clear c132
          by_cases c136 : (((rd_T47 t254 (ji129)).f0) == ((rd_T47 t254 x11_1).f0) && (((rd_T47 t254 (ji129)).f1) == ((rd_T47 t254 x11_1).f1) && (((rd_T47 t254 (ji129)).f2) == ((rd_T47 t254 x11_1).f2) && (((rd_T47 t254 (ji129)).f3) == ((rd_T47 t254 x11_1).f3) && (((rd_T47 t254 (ji129)).f4) == ((rd_T47 t254 x11_1).f4)))))) = true
          · rw [if_pos c136] at H
            have c136b0 : (((rd_T47 t254 (ji129)).f0) == ((rd_T47 t254 x11_1).f0) && (((rd_T47 t254 (ji129)).f1) == ((rd_T47 t254 x11_1).f1) && (((rd_T47 t254 (ji129)).f2) == ((rd_T47 t254 x11_1).f2) && (((rd_T47 t254 (ji129)).f3) == ((rd_T47 t254 x11_1).f3) && (((rd_T47 t254 (ji129)).f4) == ((rd_T47 t254 x11_1).f4)))))) = true := c136
            (try (have c136b1 : decide (((rd_T47 t254 (ji129)).f0) = ((rd_T47 t254 x11_1).f0) && (((rd_T47 t254 (ji129)).f1) == ((rd_T47 t254 x11_1).f1) && (((rd_T47 t254 (ji129)).f2) == ((rd_T47 t254 x11_1).f2) && (((rd_T47 t254 (ji129)).f3) == ((rd_T47 t254 x11_1).f3) && (((rd_T47 t254 (ji129)).f4) == ((rd_T47 t254 x11_1).f4)))))) = true := by simpa using c136))
            (try (have c136b2 : (((rd_T47 t254 (ji129)).f0) == ((rd_T47 t254 x11_1).f0) && (((rd_T47 t254 (ji129)).f1) == ((rd_T47 t254 x11_1).f1) && (((rd_T47 t254 (ji129)).f2) == ((rd_T47 t254 x11_1).f2) && (((rd_T47 t254 (ji129)).f3) == ((rd_T47 t254 x11_1).f3) && (((rd_T47 t254 (ji129)).f4) == ((rd_T47 t254 x11_1).f4)))))) = true := by simpa using c136))
            clear c136
            obtain rfl := Option.some.inj H
            have hnb137 := NB258_231.out
            have hnc137 := NB231_258.out
            have hnb138 := NB258_246.out
            have hnc138 := NB246_258.out
            have hcz139_0 : wc.cell? ⟨gb258, 0, none⟩ = some (.int .i64 ((rd_T47 t254 x11_1).f0)) := (blk_cell BK258.out 0).trans rfl
            have hcz139_1 : wc.cell? ⟨gb258, 1, none⟩ = some (.int .i64 ((rd_T47 t254 x11_1).f1)) := (blk_cell BK258.out 1).trans rfl
            have hcz139_2 : wc.cell? ⟨gb258, 2, none⟩ = some (.int .i64 ((rd_T47 t254 x11_1).f2)) := (blk_cell BK258.out 2).trans rfl
            have hcz139_3 : wc.cell? ⟨gb258, 3, none⟩ = some (.int .i64 ((rd_T47 t254 x11_1).f3)) := (blk_cell BK258.out 3).trans rfl
            have hcz139_4 : wc.cell? ⟨gb258, 4, none⟩ = some (.int .i64 ((rd_T47 t254 x11_1).f4)) := (blk_cell BK258.out 4).trans rfl
            have hfz139_0 := blk_frozen BK258.out 0
            have hfz139_1 := blk_frozen BK258.out 1
            have hfz139_2 := blk_frozen BK258.out 2
            have hfz139_3 := blk_frozen BK258.out 3
            have hfz139_4 := blk_frozen BK258.out 4
            have p267 : 0 ≤ ((ji129) : Int) := of_decide_eq_true (by first | (with_reducible assumption) | assumption)
            have q267 : (ji129) < (t254.length : Int) := of_decide_eq_true (by first | (with_reducible assumption) | assumption)
            obtain ⟨ad267, e267, hx267_0, hx267_1, hx267_2, hx267_3, hx267_4⟩ := at_T47 (Kd.R_reads' HO_10.out).2.2 (ji129) p267 q267
            obtain rfl : ad257 = ad267 := (by injection e267)
            replace p267 := eq_true p267
            replace q267 := eq_true q267
            have p268 : 0 ≤ ((ji129) : Int) := of_decide_eq_true (by first | (with_reducible assumption) | assumption)
            have q268 : (ji129) < (t254.length : Int) := of_decide_eq_true (by first | (with_reducible assumption) | assumption)
            obtain ⟨ad268, e268, hx268_0, hx268_1, hx268_2, hx268_3, hx268_4⟩ := at_T47 (Kd.R_reads' HO_10.out).2.2 (ji129) p268 q268
            obtain rfl : ad257 = ad268 := (by injection e268)
            replace p268 := eq_true p268
            replace q268 := eq_true q268
            go_wp2
            repeat (go_quiet (fail); try go_wp2)
            go_ret
            exact ⟨by first | rfl | (simp [errW_none, errW_some] <;> rfl) | (simp only [← hji129]; first | rfl | (simp [errW_none, errW_some] <;> rfl)) | (simp [*, errW_none, errW_some] <;> rfl), by repeat (first | (with_reducible first | exact HB.out | apply below_alloc | apply pw_below_drewN | apply below_drew1 | refine below_set ?_ GE231.out | refine below_set ?_ GE246.out | refine below_set ?_ GE258.out) | exact HB.out)⟩
          rw [if_neg c136] at H
          have c136b0 : (((rd_T47 t254 (ji129)).f0) == ((rd_T47 t254 x11_1).f0) && (((rd_T47 t254 (ji129)).f1) == ((rd_T47 t254 x11_1).f1) && (((rd_T47 t254 (ji129)).f2) == ((rd_T47 t254 x11_1).f2) && (((rd_T47 t254 (ji129)).f3) == ((rd_T47 t254 x11_1).f3) && (((rd_T47 t254 (ji129)).f4) == ((rd_T47 t254 x11_1).f4)))))) = false := by simpa using c136
          (try (have c136b1 : decide (((rd_T47 t254 (ji129)).f0) = ((rd_T47 t254 x11_1).f0) && (((rd_T47 t254 (ji129)).f1) == ((rd_T47 t254 x11_1).f1) && (((rd_T47 t254 (ji129)).f2) == ((rd_T47 t254 x11_1).f2) && (((rd_T47 t254 (ji129)).f3) == ((rd_T47 t254 x11_1).f3) && (((rd_T47 t254 (ji129)).f4) == ((rd_T47 t254 x11_1).f4)))))) = false := by simpa using c136))
          (try (have c136b2 : (((rd_T47 t254 (ji129)).f0) == ((rd_T47 t254 x11_1).f0) && (((rd_T47 t254 (ji129)).f1) == ((rd_T47 t254 x11_1).f1) && (((rd_T47 t254 (ji129)).f2) == ((rd_T47 t254 x11_1).f2) && (((rd_T47 t254 (ji129)).f3) == ((rd_T47 t254 x11_1).f3) && (((rd_T47 t254 (ji129)).f4) == ((rd_T47 t254 x11_1).f4)))))) = false := by simpa using c136))
          (try (have c136b3 : ¬ (((rd_T47 t254 (ji129)).f0) = ((rd_T47 t254 x11_1).f0) && (((rd_T47 t254 (ji129)).f1) == ((rd_T47 t254 x11_1).f1) && (((rd_T47 t254 (ji129)).f2) == ((rd_T47 t254 x11_1).f2) && (((rd_T47 t254 (ji129)).f3) == ((rd_T47 t254 x11_1).f3) && (((rd_T47 t254 (ji129)).f4) == ((rd_T47 t254 x11_1).f4)))))) := by simpa using c136))
          clear c136
          have H' := Aside0.mk H
          clear H
          have hnb140 := NB258_231.out
          have hnc140 := NB231_258.out
          have hnb141 := NB258_246.out
          have hnc141 := NB246_258.out
          have hcz142_0 : wc.cell? ⟨gb258, 0, none⟩ = some (.int .i64 ((rd_T47 t254 x11_1).f0)) := (blk_cell BK258.out 0).trans rfl
          have hcz142_1 : wc.cell? ⟨gb258, 1, none⟩ = some (.int .i64 ((rd_T47 t254 x11_1).f1)) := (blk_cell BK258.out 1).trans rfl
          have hcz142_2 : wc.cell? ⟨gb258, 2, none⟩ = some (.int .i64 ((rd_T47 t254 x11_1).f2)) := (blk_cell BK258.out 2).trans rfl
          have hcz142_3 : wc.cell? ⟨gb258, 3, none⟩ = some (.int .i64 ((rd_T47 t254 x11_1).f3)) := (blk_cell BK258.out 3).trans rfl
          have hcz142_4 : wc.cell? ⟨gb258, 4, none⟩ = some (.int .i64 ((rd_T47 t254 x11_1).f4)) := (blk_cell BK258.out 4).trans rfl
          have hfz142_0 := blk_frozen BK258.out 0
          have hfz142_1 := blk_frozen BK258.out 1
          have hfz142_2 := blk_frozen BK258.out 2
          have hfz142_3 := blk_frozen BK258.out 3
          have hfz142_4 := blk_frozen BK258.out 4
          have p267 : 0 ≤ ((ji129) : Int) := of_decide_eq_true (by first | (with_reducible assumption) | assumption)
          have q267 : (ji129) < (t254.length : Int) := of_decide_eq_true (by first | (with_reducible assumption) | assumption)
          obtain ⟨ad267, e267, hx267_0, hx267_1, hx267_2, hx267_3, hx267_4⟩ := at_T47 (Kd.R_reads' HO_10.out).2.2 (ji129) p267 q267
          obtain rfl : ad257 = ad267 := (by injection e267)
          replace p267 := eq_true p267
          replace q267 := eq_true q267
          have p268 : 0 ≤ ((ji129) : Int) := of_decide_eq_true (by first | (with_reducible assumption) | assumption)
          have q268 : (ji129) < (t254.length : Int) := of_decide_eq_true (by first | (with_reducible assumption) | assumption)
          obtain ⟨ad268, e268, hx268_0, hx268_1, hx268_2, hx268_3, hx268_4⟩ := at_T47 (Kd.R_reads' HO_10.out).2.2 (ji129) p268 q268
          obtain rfl : ad257 = ad268 := (by injection e268)
          replace p268 := eq_true p268
          replace q268 := eq_true q268
          go_wp2
          repeat (go_quiet (fail); try go_wp2)
          go_roundg kj48
          case measure => have := HK1.out; have := HJ30.out; have := HJ48.out; omega
          case rel => exact ⟨(wrap64 (x11_1 + 1)), (by first | rfl | (simp; done) | (simp [*]; done)), H', ⟨by have := HK1.out; have := HJ30.out; have := HJ48.out; omega⟩, ⟨by exact rU HO_8.out⟩, ⟨by exact rU (Kd.R_mono HO_10.out (fun _ hk => trivial))⟩, ⟨by exact vU (Kd.V_mono HO_247003.out (fun _ hk => ⟨hk.1, ⟨hk.2.1, ⟨hk.2.2.1, hk.2.2.2.1⟩⟩⟩))⟩, ⟨by exact vU (Kd.V_mono HO_247004.out (fun _ hk => ⟨hk.1, ⟨hk.2.1, ⟨hk.2.2.1, hk.2.2.2.1⟩⟩⟩))⟩, ⟨by exact vU (Kd.V_mono HO_247005.out (fun _ hk => ⟨hk.1, ⟨hk.2.1, ⟨hk.2.2.1, hk.2.2.2.1⟩⟩⟩))⟩, ⟨by (with_reducible repeat (first | refine blk_drewN ?_ _ | refine blk_drew ?_ | refine blk_alloc ?_ _)); exact BK231.out⟩, ⟨by (with_reducible repeat (first | refine blk_drewN ?_ _ | refine blk_drew ?_ | refine blk_alloc ?_ _)); exact BK246.out⟩, ⟨by repeat (first | (with_reducible first | exact HB.out | apply below_alloc | apply pw_below_drewN | apply below_drew1 | refine below_set ?_ GE231.out | refine below_set ?_ GE246.out | refine below_set ?_ GE258.out) | exact HB.out)⟩⟩
        rw [if_pos c70] at H
        have c70b0 : (((rd_T47 t254 x11_1).f2) == 0) = true := beq_iff_eq.mpr c70
        have c70b1 : (((rd_T47 t254 x11_1).f2) != 0) = false := bne_eq_false_iff_eq.mpr c70
        clear c70
        have H' := Aside0.mk H
        clear H
        have hnb71 := NB258_231.out
        have hnc71 := NB231_258.out
        have hnb72 := NB258_246.out
        have hnc72 := NB246_258.out
        have hcz73_0 : wc.cell? ⟨gb258, 0, none⟩ = some (.int .i64 ((rd_T47 t254 x11_1).f0)) := (blk_cell BK258.out 0).trans rfl
        have hcz73_1 : wc.cell? ⟨gb258, 1, none⟩ = some (.int .i64 ((rd_T47 t254 x11_1).f1)) := (blk_cell BK258.out 1).trans rfl
        have hcz73_2 : wc.cell? ⟨gb258, 2, none⟩ = some (.int .i64 ((rd_T47 t254 x11_1).f2)) := (blk_cell BK258.out 2).trans rfl
        have hcz73_3 : wc.cell? ⟨gb258, 3, none⟩ = some (.int .i64 ((rd_T47 t254 x11_1).f3)) := (blk_cell BK258.out 3).trans rfl
        have hcz73_4 : wc.cell? ⟨gb258, 4, none⟩ = some (.int .i64 ((rd_T47 t254 x11_1).f4)) := (blk_cell BK258.out 4).trans rfl
        have hfz73_0 := blk_frozen BK258.out 0
        have hfz73_1 := blk_frozen BK258.out 1
        have hfz73_2 := blk_frozen BK258.out 2
        have hfz73_3 := blk_frozen BK258.out 3
        have hfz73_4 := blk_frozen BK258.out 4
        go_wp2
        repeat (go_quiet (fail); try go_wp2)
        go_loopg [14, 15] kj48 (fun kq v14 v15 w' => ∃ (x14_4 : Int) (x15_4 : Int), v14 = .int .i64 x14_4 ∧ v15 = .int .i64 x15_4 ∧ Aside0 (interlocutorlaw6_LexPlaces.l2 kq t248 t254 x11_1 x13_48 x14_4 x15_4 ((rd_T47 t254 x11_1).f0) ((rd_T47 t254 x11_1).f1) ((rd_T47 t254 x11_1).f2) ((rd_T47 t254 x11_1).f3) ((rd_T47 t254 x11_1).f4) = some r) ∧ Aside0 (kq ≤ kj48) ∧ Aside0 (Kd.R (Kd.int .i64) 3 w' w.heap.size (fun _ => True) (.slice Ao27 t248.length co27) t248) ∧ Aside0 (Kd.R k47 47 w' w.heap.size (fun k_ => k_ ≠ gb258) (.slice (some ad257) t254.length co32) t254) ∧ Aside0 (Kd.V k53 53 w' w.heap.size (fun k_ => some k_ ≠ ((.slice Ao27 t248.length co27) : Value).ownBlock ∧ some k_ ≠ ((.slice (some ad257) t254.length co32) : Value).ownBlock ∧ k_ ≠ gb231 ∧ k_ ≠ gb246 ∧ k_ ≠ gb258) (.slice Ao21 t237.length co21) t237) ∧ Aside0 (Kd.V k108 108 w' w.heap.size (fun k_ => some k_ ≠ ((.slice Ao27 t248.length co27) : Value).ownBlock ∧ some k_ ≠ ((.slice (some ad257) t254.length co32) : Value).ownBlock ∧ k_ ≠ gb231 ∧ k_ ≠ gb246 ∧ k_ ≠ gb258) (.slice Ao22 t240.length co22) t240) ∧ Aside0 (Kd.V k138 138 w' w.heap.size (fun k_ => some k_ ≠ ((.slice Ao27 t248.length co27) : Value).ownBlock ∧ some k_ ≠ ((.slice (some ad257) t254.length co32) : Value).ownBlock ∧ k_ ≠ gb231 ∧ k_ ≠ gb246 ∧ k_ ≠ gb258) (.slice Ao23 t243.length co23) t243) ∧ Aside0 (w'.heap[gb231]? = some (.cells #[.int .i64 a0_0, .int .i64 a0_1, .int .i64 a0_2, .int .i64 a0_3, (.slice A0_4 l0_4.length c0_4), .bool a0_5] 24 (0, 0))) ∧ Aside0 (w'.heap[gb246]? = some (.cells #[.string t234, .int .i64 t235, .int .i64 t236, (.slice Ao21 t237.length co21), (.slice Ao22 t240.length co22), (.slice Ao23 t243.length co23)] 32 (0, 0))) ∧ Aside0 (w'.heap[gb258]? = some (.cells #[.int .i64 ((rd_T47 t254 x11_1).f0), .int .i64 ((rd_T47 t254 x11_1).f1), .int .i64 ((rd_T47 t254 x11_1).f2), .int .i64 ((rd_T47 t254 x11_1).f3), .int .i64 ((rd_T47 t254 x11_1).f4)] 47 (0, 0))) ∧ Aside0 (Below w.heap.size w w'))
        case atStart => exact ⟨(0), (x13_48), (by first | rfl | (simp; done) | (simp [*]; done)), (by first | rfl | (simp; done) | (simp [*]; done)), H', ⟨Nat.le_refl _⟩, ⟨by exact rU HO_8.out⟩, ⟨by exact rU HO_10.out⟩, ⟨by exact vU HO_247003.out⟩, ⟨by exact vU HO_247004.out⟩, ⟨by exact vU HO_247005.out⟩, ⟨by (with_reducible repeat (first | refine blk_drewN ?_ _ | refine blk_drew ?_ | refine blk_alloc ?_ _)); exact BK231.out⟩, ⟨by (with_reducible repeat (first | refine blk_drewN ?_ _ | refine blk_drew ?_ | refine blk_alloc ?_ _)); exact BK246.out⟩, ⟨by (with_reducible repeat (first | refine blk_drewN ?_ _ | refine blk_drew ?_ | refine blk_alloc ?_ _)); exact BK258.out⟩, ⟨by repeat (first | (with_reducible first | exact HB.out | apply below_alloc | apply pw_below_drewN | apply below_drew1 | refine below_set ?_ GE231.out | refine below_set ?_ GE246.out | refine below_set ?_ GE258.out) | exact HB.out)⟩⟩
        case round =>
         clear H'
         try clear c1
         try clear c2
         try clear p2
         try clear q2
         try clear hx2
         try clear c3
         try clear c4
         try clear c5
         try clear c6
         try clear p6
         try clear c7
         try clear c19
         try clear p25
         try clear q25
         try clear hx25
         try clear c29
         try clear c29b0
         try clear c30
         try clear c30b0
         try clear c34
         try clear c35
         try clear c37
         try clear c37b0
         try clear c38
         try clear c39
         try clear c41
         try clear c41b0
         try clear c42
         try clear c43
         try clear c45
         try clear c46
         try clear c48
         try clear c50
         try clear c51
         try clear c53
         try clear c53b0
         try clear c54
         try clear c54b0
         try clear c55
         try clear c55b0
         try clear c56
         try clear c56b0
         try clear c56b1
         try clear c57
         try clear c58
         try clear c60
         try clear c61
         try clear c63
         try clear c64
         try clear p64
         try clear c66
         try clear c66b0
         try clear c66b1
         try clear c67
         try clear c68
         try clear c70
         try clear c70b0
         try clear c70b1
         try clear c71
         try clear c72
         try clear hcz14_0
         try clear hcz14_1
         try clear hcz14_2
         try clear hcz14_3
         try clear hcz14_4
         try clear hcz14_5
         try clear hcz16_0
         try clear hcz16_1
         try clear hcz16_2
         try clear hcz16_3
         try clear hcz16_4
         try clear hcz16_5
         try clear hcz20_0
         try clear hcz20_1
         try clear hcz20_2
         try clear hcz20_3
         try clear hcz20_4
         try clear hcz20_5
         try clear hcz26_0
         try clear hcz26_1
         try clear hcz26_2
         try clear hcz26_3
         try clear hcz26_4
         try clear hcz26_5
         try clear hcz36_0
         try clear hcz36_1
         try clear hcz36_2
         try clear hcz36_3
         try clear hcz36_4
         try clear hcz40_0
         try clear hcz40_1
         try clear hcz40_2
         try clear hcz40_3
         try clear hcz40_4
         try clear hcz44_0
         try clear hcz44_1
         try clear hcz44_2
         try clear hcz44_3
         try clear hcz44_4
         try clear hcz47_0
         try clear hcz47_1
         try clear hcz47_2
         try clear hcz47_3
         try clear hcz47_4
         try clear hcz52_0
         try clear hcz52_1
         try clear hcz52_2
         try clear hcz52_3
         try clear hcz52_4
         try clear hcz59_0
         try clear hcz59_1
         try clear hcz59_2
         try clear hcz59_3
         try clear hcz59_4
         try clear hcz62_0
         try clear hcz62_1
         try clear hcz62_2
         try clear hcz62_3
         try clear hcz62_4
         try clear hcz65_0
         try clear hcz65_1
         try clear hcz65_2
         try clear hcz65_3
         try clear hcz65_4
         try clear hcz69_0
         try clear hcz69_1
         try clear hcz69_2
         try clear hcz69_3
         try clear hcz69_4
         try clear hcz73_0
         try clear hcz73_1
         try clear hcz73_2
         try clear hcz73_3
         try clear hcz73_4
         try clear hfz14_0
         try clear hfz14_1
         try clear hfz14_2
         try clear hfz14_3
         try clear hfz14_4
         try clear hfz14_5
         try clear hfz16_0
         try clear hfz16_1
         try clear hfz16_2
         try clear hfz16_3
         try clear hfz16_4
         try clear hfz16_5
         try clear hfz20_0
         try clear hfz20_1
         try clear hfz20_2
         try clear hfz20_3
         try clear hfz20_4
         try clear hfz20_5
         try clear hfz26_0
         try clear hfz26_1
         try clear hfz26_2
         try clear hfz26_3
         try clear hfz26_4
         try clear hfz26_5
         try clear hfz36_0
         try clear hfz36_1
         try clear hfz36_2
         try clear hfz36_3
         try clear hfz36_4
         try clear hfz40_0
         try clear hfz40_1
         try clear hfz40_2
         try clear hfz40_3
         try clear hfz40_4
         try clear hfz44_0
         try clear hfz44_1
         try clear hfz44_2
         try clear hfz44_3
         try clear hfz44_4
         try clear hfz47_0
         try clear hfz47_1
         try clear hfz47_2
         try clear hfz47_3
         try clear hfz47_4
         try clear hfz52_0
         try clear hfz52_1
         try clear hfz52_2
         try clear hfz52_3
         try clear hfz52_4
         try clear hfz59_0
         try clear hfz59_1
         try clear hfz59_2
         try clear hfz59_3
         try clear hfz59_4
         try clear hfz62_0
         try clear hfz62_1
         try clear hfz62_2
         try clear hfz62_3
         try clear hfz62_4
         try clear hfz65_0
         try clear hfz65_1
         try clear hfz65_2
         try clear hfz65_3
         try clear hfz65_4
         try clear hfz69_0
         try clear hfz69_1
         try clear hfz69_2
         try clear hfz69_3
         try clear hfz69_4
         try clear hfz73_0
         try clear hfz73_1
         try clear hfz73_2
         try clear hfz73_3
         try clear hfz73_4
         try clear hx257_0
         try clear hx257_1
         try clear hx257_2
         try clear hx257_3
         try clear hx257_4
         try clear hx259_0
         try clear p2
         try clear p25
         try clear p257
         try clear p259
         try clear p6
         try clear p64
         try clear q2
         try clear q25
         try clear q257
         try clear q259
         obtain ⟨x14_4, x15_4, rfl, rfl, HA, HK4, HO_8, HO_10, HO_247003, HO_247004, HO_247005, BK231, BK246, BK258, HB⟩ := hrel
         cases gk with
         | zero => exact absurd HA.out (by simp [interlocutorlaw6_LexPlaces.l2])
         | succ k4 =>
          have H := HA.out
          clear HA
          simp only [interlocutorlaw6_LexPlaces.l2] at H
          by_cases c74 : x15_4 < ((rd_T47 t254 x11_1).f1)
          · rw [if_pos c74] at H
            have c74b0 : decide (x15_4 < ((rd_T47 t254 x11_1).f1)) = true := decide_eq_true c74
            clear c74
            by_cases c75 : 0 ≤ x15_4
            rotate_left
            · rw [if_neg c75] at H
              exact absurd H (by simp)
            rw [if_pos c75] at H
            have c75b0 : decide (0 ≤ x15_4) = true := decide_eq_true c75
            clear c75
            by_cases c76 : x15_4 < (t248.length : Int)
            rotate_left
            · rw [if_neg c76] at H
              exact absurd H (by simp)
            rw [if_pos c76] at H
            have c76b0 : decide (x15_4 < (t248.length : Int)) = true := decide_eq_true c76
            clear c76
            by_cases c77 : (rd t248 x15_4) < 48
            · rw [if_pos c77] at H
              have c77b0 : decide ((rd t248 x15_4) < 48) = true := decide_eq_true c77
              clear c77
              obtain rfl := Option.some.inj H
              have hnb78 := NB258_231.out
              have hnc78 := NB231_258.out
              have hnb79 := NB258_246.out
              have hnc79 := NB246_258.out
              have hcz80_0 : wr.cell? ⟨gb258, 0, none⟩ = some (.int .i64 ((rd_T47 t254 x11_1).f0)) := (blk_cell BK258.out 0).trans rfl
              have hcz80_1 : wr.cell? ⟨gb258, 1, none⟩ = some (.int .i64 ((rd_T47 t254 x11_1).f1)) := (blk_cell BK258.out 1).trans rfl
              have hcz80_2 : wr.cell? ⟨gb258, 2, none⟩ = some (.int .i64 ((rd_T47 t254 x11_1).f2)) := (blk_cell BK258.out 2).trans rfl
              have hcz80_3 : wr.cell? ⟨gb258, 3, none⟩ = some (.int .i64 ((rd_T47 t254 x11_1).f3)) := (blk_cell BK258.out 3).trans rfl
              have hcz80_4 : wr.cell? ⟨gb258, 4, none⟩ = some (.int .i64 ((rd_T47 t254 x11_1).f4)) := (blk_cell BK258.out 4).trans rfl
              have hfz80_0 := blk_frozen BK258.out 0
              have hfz80_1 := blk_frozen BK258.out 1
              have hfz80_2 := blk_frozen BK258.out 2
              have hfz80_3 := blk_frozen BK258.out 3
              have hfz80_4 := blk_frozen BK258.out 4
              have p260 : 0 ≤ (x15_4 : Int) := of_decide_eq_true (by first | (with_reducible assumption) | assumption)
              have q260 : x15_4 < (t248.length : Int) := of_decide_eq_true (by first | (with_reducible assumption) | assumption)
              obtain ⟨ad260, e260, hx260_0⟩ := Kd.at_int (Kd.R_reads' HO_8.out).2.2 x15_4 p260 q260
              cases e260
              replace p260 := eq_true p260
              replace q260 := eq_true q260
              go_wp2
              repeat (go_quiet (fail); try go_wp2)
              go_ret
              exact ⟨by first | rfl | (simp [errW_none, errW_some] <;> rfl) | (simp [*, errW_none, errW_some] <;> rfl), by repeat (first | (with_reducible first | exact HB.out | apply below_alloc | apply pw_below_drewN | apply below_drew1 | refine below_set ?_ GE231.out | refine below_set ?_ GE246.out | refine below_set ?_ GE258.out) | exact HB.out)⟩
            rw [if_neg c77] at H
            have c77b0 : decide ((rd t248 x15_4) < 48) = false := decide_eq_false c77
            clear c77
            by_cases c81 : (rd t248 x15_4) > 57
            · rw [if_pos c81] at H
              have c81b0 : decide (57 < (rd t248 x15_4)) = true := decide_eq_true c81
              clear c81
              obtain rfl := Option.some.inj H
              have hnb82 := NB258_231.out
              have hnc82 := NB231_258.out
              have hnb83 := NB258_246.out
              have hnc83 := NB246_258.out
              have hcz84_0 : wr.cell? ⟨gb258, 0, none⟩ = some (.int .i64 ((rd_T47 t254 x11_1).f0)) := (blk_cell BK258.out 0).trans rfl
              have hcz84_1 : wr.cell? ⟨gb258, 1, none⟩ = some (.int .i64 ((rd_T47 t254 x11_1).f1)) := (blk_cell BK258.out 1).trans rfl
              have hcz84_2 : wr.cell? ⟨gb258, 2, none⟩ = some (.int .i64 ((rd_T47 t254 x11_1).f2)) := (blk_cell BK258.out 2).trans rfl
              have hcz84_3 : wr.cell? ⟨gb258, 3, none⟩ = some (.int .i64 ((rd_T47 t254 x11_1).f3)) := (blk_cell BK258.out 3).trans rfl
              have hcz84_4 : wr.cell? ⟨gb258, 4, none⟩ = some (.int .i64 ((rd_T47 t254 x11_1).f4)) := (blk_cell BK258.out 4).trans rfl
              have hfz84_0 := blk_frozen BK258.out 0
              have hfz84_1 := blk_frozen BK258.out 1
              have hfz84_2 := blk_frozen BK258.out 2
              have hfz84_3 := blk_frozen BK258.out 3
              have hfz84_4 := blk_frozen BK258.out 4
              have p260 : 0 ≤ (x15_4 : Int) := of_decide_eq_true (by first | (with_reducible assumption) | assumption)
              have q260 : x15_4 < (t248.length : Int) := of_decide_eq_true (by first | (with_reducible assumption) | assumption)
              obtain ⟨ad260, e260, hx260_0⟩ := Kd.at_int (Kd.R_reads' HO_8.out).2.2 x15_4 p260 q260
              cases e260
              replace p260 := eq_true p260
              replace q260 := eq_true q260
              have p261 : 0 ≤ (x15_4 : Int) := of_decide_eq_true (by first | (with_reducible assumption) | assumption)
              have q261 : x15_4 < (t248.length : Int) := of_decide_eq_true (by first | (with_reducible assumption) | assumption)
              obtain ⟨ad261, e261, hx261_0⟩ := Kd.at_int (Kd.R_reads' HO_8.out).2.2 x15_4 p261 q261
              obtain rfl : ad260 = ad261 := (by injection e261)
              replace p261 := eq_true p261
              replace q261 := eq_true q261
              go_wp2
              repeat (go_quiet (fail); try go_wp2)
              go_ret
              exact ⟨by first | rfl | (simp [errW_none, errW_some] <;> rfl) | (simp [*, errW_none, errW_some] <;> rfl), by repeat (first | (with_reducible first | exact HB.out | apply below_alloc | apply pw_below_drewN | apply below_drew1 | refine below_set ?_ GE231.out | refine below_set ?_ GE246.out | refine below_set ?_ GE258.out) | exact HB.out)⟩
            rw [if_neg c81] at H
            have c81b0 : decide (57 < (rd t248 x15_4)) = false := decide_eq_false c81
            clear c81
            have H' := Aside0.mk H
            clear H
            have hnb85 := NB258_231.out
            have hnc85 := NB231_258.out
            have hnb86 := NB258_246.out
            have hnc86 := NB246_258.out
            have hcz87_0 : wr.cell? ⟨gb258, 0, none⟩ = some (.int .i64 ((rd_T47 t254 x11_1).f0)) := (blk_cell BK258.out 0).trans rfl
            have hcz87_1 : wr.cell? ⟨gb258, 1, none⟩ = some (.int .i64 ((rd_T47 t254 x11_1).f1)) := (blk_cell BK258.out 1).trans rfl
            have hcz87_2 : wr.cell? ⟨gb258, 2, none⟩ = some (.int .i64 ((rd_T47 t254 x11_1).f2)) := (blk_cell BK258.out 2).trans rfl
            have hcz87_3 : wr.cell? ⟨gb258, 3, none⟩ = some (.int .i64 ((rd_T47 t254 x11_1).f3)) := (blk_cell BK258.out 3).trans rfl
            have hcz87_4 : wr.cell? ⟨gb258, 4, none⟩ = some (.int .i64 ((rd_T47 t254 x11_1).f4)) := (blk_cell BK258.out 4).trans rfl
            have hfz87_0 := blk_frozen BK258.out 0
            have hfz87_1 := blk_frozen BK258.out 1
            have hfz87_2 := blk_frozen BK258.out 2
            have hfz87_3 := blk_frozen BK258.out 3
            have hfz87_4 := blk_frozen BK258.out 4
            have p260 : 0 ≤ (x15_4 : Int) := of_decide_eq_true (by first | (with_reducible assumption) | assumption)
            have q260 : x15_4 < (t248.length : Int) := of_decide_eq_true (by first | (with_reducible assumption) | assumption)
            obtain ⟨ad260, e260, hx260_0⟩ := Kd.at_int (Kd.R_reads' HO_8.out).2.2 x15_4 p260 q260
            cases e260
            replace p260 := eq_true p260
            replace q260 := eq_true q260
            have p261 : 0 ≤ (x15_4 : Int) := of_decide_eq_true (by first | (with_reducible assumption) | assumption)
            have q261 : x15_4 < (t248.length : Int) := of_decide_eq_true (by first | (with_reducible assumption) | assumption)
            obtain ⟨ad261, e261, hx261_0⟩ := Kd.at_int (Kd.R_reads' HO_8.out).2.2 x15_4 p261 q261
            obtain rfl : ad260 = ad261 := (by injection e261)
            replace p261 := eq_true p261
            replace q261 := eq_true q261
            have p262 : 0 ≤ (x15_4 : Int) := of_decide_eq_true (by first | (with_reducible assumption) | assumption)
            have q262 : x15_4 < (t248.length : Int) := of_decide_eq_true (by first | (with_reducible assumption) | assumption)
            obtain ⟨ad262, e262, hx262_0⟩ := Kd.at_int (Kd.R_reads' HO_8.out).2.2 x15_4 p262 q262
            obtain rfl : ad260 = ad262 := (by injection e262)
            replace p262 := eq_true p262
            replace q262 := eq_true q262
            go_wp2
            repeat (go_quiet (fail); try go_wp2)
            go_roundg k4
            case measure => have := HK1.out; have := HJ30.out; have := HJ48.out; have := HK4.out; omega
            case rel => exact ⟨(wrap64 ((wrap64 ((wrap64 (10 * x14_4)) + (rd t248 x15_4))) - 48)), (wrap64 (x15_4 + 1)), (by first | rfl | (simp; done) | (simp [*]; done)), (by first | rfl | (simp; done) | (simp [*]; done)), H', ⟨by have := HK1.out; have := HJ30.out; have := HJ48.out; have := HK4.out; omega⟩, ⟨by exact rU HO_8.out⟩, ⟨by exact rU HO_10.out⟩, ⟨by exact vU HO_247003.out⟩, ⟨by exact vU HO_247004.out⟩, ⟨by exact vU HO_247005.out⟩, ⟨by (with_reducible repeat (first | refine blk_drewN ?_ _ | refine blk_drew ?_ | refine blk_alloc ?_ _)); exact BK231.out⟩, ⟨by (with_reducible repeat (first | refine blk_drewN ?_ _ | refine blk_drew ?_ | refine blk_alloc ?_ _)); exact BK246.out⟩, ⟨by (with_reducible repeat (first | refine blk_drewN ?_ _ | refine blk_drew ?_ | refine blk_alloc ?_ _)); exact BK258.out⟩, ⟨by repeat (first | (with_reducible first | exact HB.out | apply below_alloc | apply pw_below_drewN | apply below_drew1 | refine below_set ?_ GE231.out | refine below_set ?_ GE246.out | refine below_set ?_ GE258.out) | exact HB.out)⟩⟩
          rw [if_neg c74] at H
          have c74b0 : decide (x15_4 < ((rd_T47 t254 x11_1).f1)) = false := decide_eq_false c74
          clear c74
          have HC88 := Aside0.mk H
          clear H
          have hnb89 := NB258_231.out
          have hnc89 := NB231_258.out
          have hnb90 := NB258_246.out
          have hnc90 := NB246_258.out
          have hcz91_0 : wr.cell? ⟨gb258, 0, none⟩ = some (.int .i64 ((rd_T47 t254 x11_1).f0)) := (blk_cell BK258.out 0).trans rfl
          have hcz91_1 : wr.cell? ⟨gb258, 1, none⟩ = some (.int .i64 ((rd_T47 t254 x11_1).f1)) := (blk_cell BK258.out 1).trans rfl
          have hcz91_2 : wr.cell? ⟨gb258, 2, none⟩ = some (.int .i64 ((rd_T47 t254 x11_1).f2)) := (blk_cell BK258.out 2).trans rfl
          have hcz91_3 : wr.cell? ⟨gb258, 3, none⟩ = some (.int .i64 ((rd_T47 t254 x11_1).f3)) := (blk_cell BK258.out 3).trans rfl
          have hcz91_4 : wr.cell? ⟨gb258, 4, none⟩ = some (.int .i64 ((rd_T47 t254 x11_1).f4)) := (blk_cell BK258.out 4).trans rfl
          have hfz91_0 := blk_frozen BK258.out 0
          have hfz91_1 := blk_frozen BK258.out 1
          have hfz91_2 := blk_frozen BK258.out 2
          have hfz91_3 := blk_frozen BK258.out 3
          have hfz91_4 := blk_frozen BK258.out 4
          go_upto_region 27 with (fail)
          repeat (go_quiet (fail); go_upto_region 27 with (fail))
          go_cut [144] (fun v144 wc => ∃ (kq : Nat) (x144_87 : Bool), v144 = .bool x144_87 ∧ Aside0 (interlocutorlaw6_LexPlaces.j5 kq t248 t254 x11_1 x144_87 ((rd_T47 t254 x11_1).f0) ((rd_T47 t254 x11_1).f1) ((rd_T47 t254 x11_1).f2) ((rd_T47 t254 x11_1).f3) ((rd_T47 t254 x11_1).f4) = some r) ∧ Aside0 (kq ≤ k4) ∧ Aside0 (Kd.R (Kd.int .i64) 3 wc w.heap.size (fun _ => True) (.slice Ao27 t248.length co27) t248) ∧ Aside0 (Kd.R k47 47 wc w.heap.size (fun k_ => k_ ≠ gb258) (.slice (some ad257) t254.length co32) t254) ∧ Aside0 (Kd.V k53 53 wc w.heap.size (fun k_ => some k_ ≠ ((.slice Ao27 t248.length co27) : Value).ownBlock ∧ some k_ ≠ ((.slice (some ad257) t254.length co32) : Value).ownBlock ∧ k_ ≠ gb231 ∧ k_ ≠ gb246 ∧ k_ ≠ gb258) (.slice Ao21 t237.length co21) t237) ∧ Aside0 (Kd.V k108 108 wc w.heap.size (fun k_ => some k_ ≠ ((.slice Ao27 t248.length co27) : Value).ownBlock ∧ some k_ ≠ ((.slice (some ad257) t254.length co32) : Value).ownBlock ∧ k_ ≠ gb231 ∧ k_ ≠ gb246 ∧ k_ ≠ gb258) (.slice Ao22 t240.length co22) t240) ∧ Aside0 (Kd.V k138 138 wc w.heap.size (fun k_ => some k_ ≠ ((.slice Ao27 t248.length co27) : Value).ownBlock ∧ some k_ ≠ ((.slice (some ad257) t254.length co32) : Value).ownBlock ∧ k_ ≠ gb231 ∧ k_ ≠ gb246 ∧ k_ ≠ gb258) (.slice Ao23 t243.length co23) t243) ∧ Aside0 (wc.heap[gb231]? = some (.cells #[.int .i64 a0_0, .int .i64 a0_1, .int .i64 a0_2, .int .i64 a0_3, (.slice A0_4 l0_4.length c0_4), .bool a0_5] 24 (0, 0))) ∧ Aside0 (wc.heap[gb246]? = some (.cells #[.string t234, .int .i64 t235, .int .i64 t236, (.slice Ao21 t237.length co21), (.slice Ao22 t240.length co22), (.slice Ao23 t243.length co23)] 32 (0, 0))) ∧ Aside0 (wc.heap[gb258]? = some (.cells #[.int .i64 ((rd_T47 t254 x11_1).f0), .int .i64 ((rd_T47 t254 x11_1).f1), .int .i64 ((rd_T47 t254 x11_1).f2), .int .i64 ((rd_T47 t254 x11_1).f3), .int .i64 ((rd_T47 t254 x11_1).f4)] 47 (0, 0))) ∧ Aside0 (Below w.heap.size w wc))
          case first =>
           have H := HC88.out
           clear HC88
           by_cases c92 : x14_4 = ((rd_T47 t254 x11_1).f3)
           rotate_left
           · rw [if_neg c92] at H
             have c92b0 : (x14_4 == ((rd_T47 t254 x11_1).f3)) = false := beq_eq_false_iff_ne.mpr c92
             have c92b1 : (x14_4 != ((rd_T47 t254 x11_1).f3)) = true := bne_iff_ne.mpr c92
             (first | rw [c92b0] | (simp only [i64_w, i32_w]; rw [c92b0]) | skip)
             have H' := Aside0.mk H
             clear H
             have hnb109 := NB258_231.out
             have hnc109 := NB231_258.out
             have hnb110 := NB258_246.out
             have hnc110 := NB246_258.out
             have hcz111_0 : wr.cell? ⟨gb258, 0, none⟩ = some (.int .i64 ((rd_T47 t254 x11_1).f0)) := (blk_cell BK258.out 0).trans rfl
             have hcz111_1 : wr.cell? ⟨gb258, 1, none⟩ = some (.int .i64 ((rd_T47 t254 x11_1).f1)) := (blk_cell BK258.out 1).trans rfl
             have hcz111_2 : wr.cell? ⟨gb258, 2, none⟩ = some (.int .i64 ((rd_T47 t254 x11_1).f2)) := (blk_cell BK258.out 2).trans rfl
             have hcz111_3 : wr.cell? ⟨gb258, 3, none⟩ = some (.int .i64 ((rd_T47 t254 x11_1).f3)) := (blk_cell BK258.out 3).trans rfl
             have hcz111_4 : wr.cell? ⟨gb258, 4, none⟩ = some (.int .i64 ((rd_T47 t254 x11_1).f4)) := (blk_cell BK258.out 4).trans rfl
             have hfz111_0 := blk_frozen BK258.out 0
             have hfz111_1 := blk_frozen BK258.out 1
             have hfz111_2 := blk_frozen BK258.out 2
             have hfz111_3 := blk_frozen BK258.out 3
             have hfz111_4 := blk_frozen BK258.out 4
             go_wp2
             repeat (go_quiet (fail); try go_wp2)
             go_meet
             case rel => exact ⟨_, (true), (by first | rfl | (simp; done) | (simp [*]; done)), H', ⟨by have := HK1.out; have := HJ30.out; have := HJ48.out; have := HK4.out; first | omega | exact Nat.le_refl _⟩, ⟨by exact rU HO_8.out⟩, ⟨by exact rU HO_10.out⟩, ⟨by exact vU HO_247003.out⟩, ⟨by exact vU HO_247004.out⟩, ⟨by exact vU HO_247005.out⟩, ⟨by (with_reducible repeat (first | refine blk_drewN ?_ _ | refine blk_drew ?_ | refine blk_alloc ?_ _)); exact BK231.out⟩, ⟨by (with_reducible repeat (first | refine blk_drewN ?_ _ | refine blk_drew ?_ | refine blk_alloc ?_ _)); exact BK246.out⟩, ⟨by (with_reducible repeat (first | refine blk_drewN ?_ _ | refine blk_drew ?_ | refine blk_alloc ?_ _)); exact BK258.out⟩, ⟨by repeat (first | (with_reducible first | exact HB.out | apply below_alloc | apply pw_below_drewN | apply below_drew1 | refine below_set ?_ GE231.out | refine below_set ?_ GE246.out | refine below_set ?_ GE258.out) | exact HB.out)⟩⟩
           rw [if_pos c92] at H
           have c92b0 : (x14_4 == ((rd_T47 t254 x11_1).f3)) = true := beq_iff_eq.mpr c92
           have c92b1 : (x14_4 != ((rd_T47 t254 x11_1).f3)) = false := bne_eq_false_iff_eq.mpr c92
           clear c92
           (first | rw [c92b0] | (simp only [i64_w, i32_w]; rw [c92b0]) | skip)
           by_cases c93 : ((rd_T47 t254 x11_1).f4) = (wrap64 (((rd_T47 t254 x11_1).f1) - x13_48))
           rotate_left
           · rw [if_neg c93] at H
             have c93b0 : (((rd_T47 t254 x11_1).f4) == (wrap64 (((rd_T47 t254 x11_1).f1) - x13_48))) = false := beq_eq_false_iff_ne.mpr c93
             have c93b1 : (((rd_T47 t254 x11_1).f4) != (wrap64 (((rd_T47 t254 x11_1).f1) - x13_48))) = true := bne_iff_ne.mpr c93
             have H' := Aside0.mk H
             clear H
             have hnb106 := NB258_231.out
             have hnc106 := NB231_258.out
             have hnb107 := NB258_246.out
             have hnc107 := NB246_258.out
             have hcz108_0 : wr.cell? ⟨gb258, 0, none⟩ = some (.int .i64 ((rd_T47 t254 x11_1).f0)) := (blk_cell BK258.out 0).trans rfl
             have hcz108_1 : wr.cell? ⟨gb258, 1, none⟩ = some (.int .i64 ((rd_T47 t254 x11_1).f1)) := (blk_cell BK258.out 1).trans rfl
             have hcz108_2 : wr.cell? ⟨gb258, 2, none⟩ = some (.int .i64 ((rd_T47 t254 x11_1).f2)) := (blk_cell BK258.out 2).trans rfl
             have hcz108_3 : wr.cell? ⟨gb258, 3, none⟩ = some (.int .i64 ((rd_T47 t254 x11_1).f3)) := (blk_cell BK258.out 3).trans rfl
             have hcz108_4 : wr.cell? ⟨gb258, 4, none⟩ = some (.int .i64 ((rd_T47 t254 x11_1).f4)) := (blk_cell BK258.out 4).trans rfl
             have hfz108_0 := blk_frozen BK258.out 0
             have hfz108_1 := blk_frozen BK258.out 1
             have hfz108_2 := blk_frozen BK258.out 2
             have hfz108_3 := blk_frozen BK258.out 3
             have hfz108_4 := blk_frozen BK258.out 4
             go_wp2
             repeat (go_quiet (fail); try go_wp2)
             go_meet
             case rel => exact ⟨_, (true), (by first | rfl | (simp; done) | (simp [*]; done)), H', ⟨by have := HK1.out; have := HJ30.out; have := HJ48.out; have := HK4.out; first | omega | exact Nat.le_refl _⟩, ⟨by exact rU HO_8.out⟩, ⟨by exact rU HO_10.out⟩, ⟨by exact vU HO_247003.out⟩, ⟨by exact vU HO_247004.out⟩, ⟨by exact vU HO_247005.out⟩, ⟨by (with_reducible repeat (first | refine blk_drewN ?_ _ | refine blk_drew ?_ | refine blk_alloc ?_ _)); exact BK231.out⟩, ⟨by (with_reducible repeat (first | refine blk_drewN ?_ _ | refine blk_drew ?_ | refine blk_alloc ?_ _)); exact BK246.out⟩, ⟨by (with_reducible repeat (first | refine blk_drewN ?_ _ | refine blk_drew ?_ | refine blk_alloc ?_ _)); exact BK258.out⟩, ⟨by repeat (first | (with_reducible first | exact HB.out | apply below_alloc | apply pw_below_drewN | apply below_drew1 | refine below_set ?_ GE231.out | refine below_set ?_ GE246.out | refine below_set ?_ GE258.out) | exact HB.out)⟩⟩
           rw [if_pos c93] at H
           have c93b0 : (((rd_T47 t254 x11_1).f4) == (wrap64 (((rd_T47 t254 x11_1).f1) - x13_48))) = true := beq_iff_eq.mpr c93
           have c93b1 : (((rd_T47 t254 x11_1).f4) != (wrap64 (((rd_T47 t254 x11_1).f1) - x13_48))) = false := bne_eq_false_iff_eq.mpr c93
           clear c93
           by_cases c94 : ((rd_T47 t254 x11_1).f1) < (t248.length : Int)
           rotate_left
           · rw [if_neg c94] at H
             have c94b0 : decide (((rd_T47 t254 x11_1).f1) < (t248.length : Int)) = false := decide_eq_false c94
             clear c94
             have H' := Aside0.mk H
             clear H
             have hnb103 := NB258_231.out
             have hnc103 := NB231_258.out
             have hnb104 := NB258_246.out
             have hnc104 := NB246_258.out
             have hcz105_0 : wr.cell? ⟨gb258, 0, none⟩ = some (.int .i64 ((rd_T47 t254 x11_1).f0)) := (blk_cell BK258.out 0).trans rfl
             have hcz105_1 : wr.cell? ⟨gb258, 1, none⟩ = some (.int .i64 ((rd_T47 t254 x11_1).f1)) := (blk_cell BK258.out 1).trans rfl
             have hcz105_2 : wr.cell? ⟨gb258, 2, none⟩ = some (.int .i64 ((rd_T47 t254 x11_1).f2)) := (blk_cell BK258.out 2).trans rfl
             have hcz105_3 : wr.cell? ⟨gb258, 3, none⟩ = some (.int .i64 ((rd_T47 t254 x11_1).f3)) := (blk_cell BK258.out 3).trans rfl
             have hcz105_4 : wr.cell? ⟨gb258, 4, none⟩ = some (.int .i64 ((rd_T47 t254 x11_1).f4)) := (blk_cell BK258.out 4).trans rfl
             have hfz105_0 := blk_frozen BK258.out 0
             have hfz105_1 := blk_frozen BK258.out 1
             have hfz105_2 := blk_frozen BK258.out 2
             have hfz105_3 := blk_frozen BK258.out 3
             have hfz105_4 := blk_frozen BK258.out 4
             go_wp2
             repeat (go_quiet (fail); try go_wp2)
             go_meet
             case rel => exact ⟨_, (false), (by first | rfl | (simp; done) | (simp [*]; done)), H', ⟨by have := HK1.out; have := HJ30.out; have := HJ48.out; have := HK4.out; first | omega | exact Nat.le_refl _⟩, ⟨by exact rU HO_8.out⟩, ⟨by exact rU HO_10.out⟩, ⟨by exact vU HO_247003.out⟩, ⟨by exact vU HO_247004.out⟩, ⟨by exact vU HO_247005.out⟩, ⟨by (with_reducible repeat (first | refine blk_drewN ?_ _ | refine blk_drew ?_ | refine blk_alloc ?_ _)); exact BK231.out⟩, ⟨by (with_reducible repeat (first | refine blk_drewN ?_ _ | refine blk_drew ?_ | refine blk_alloc ?_ _)); exact BK246.out⟩, ⟨by (with_reducible repeat (first | refine blk_drewN ?_ _ | refine blk_drew ?_ | refine blk_alloc ?_ _)); exact BK258.out⟩, ⟨by repeat (first | (with_reducible first | exact HB.out | apply below_alloc | apply pw_below_drewN | apply below_drew1 | refine below_set ?_ GE231.out | refine below_set ?_ GE246.out | refine below_set ?_ GE258.out) | exact HB.out)⟩⟩
           rw [if_pos c94] at H
           have c94b0 : decide (((rd_T47 t254 x11_1).f1) < (t248.length : Int)) = true := decide_eq_true c94
           clear c94
           by_cases c95 : 0 ≤ ((rd_T47 t254 x11_1).f1)
           rotate_left
           · rw [if_neg c95] at H
             exact absurd H (by simp)
           rw [if_pos c95] at H
           have c95b0 : decide (0 ≤ ((rd_T47 t254 x11_1).f1)) = true := decide_eq_true c95
           clear c95
           by_cases c96 : (rd t248 ((rd_T47 t254 x11_1).f1)) ≥ 48
           rotate_left
           · rw [if_neg c96] at H
             have c96b0 : decide (48 ≤ (rd t248 ((rd_T47 t254 x11_1).f1))) = false := decide_eq_false c96
             clear c96
             have H' := Aside0.mk H
             clear H
             have hnb100 := NB258_231.out
             have hnc100 := NB231_258.out
             have hnb101 := NB258_246.out
             have hnc101 := NB246_258.out
             have hcz102_0 : wr.cell? ⟨gb258, 0, none⟩ = some (.int .i64 ((rd_T47 t254 x11_1).f0)) := (blk_cell BK258.out 0).trans rfl
             have hcz102_1 : wr.cell? ⟨gb258, 1, none⟩ = some (.int .i64 ((rd_T47 t254 x11_1).f1)) := (blk_cell BK258.out 1).trans rfl
             have hcz102_2 : wr.cell? ⟨gb258, 2, none⟩ = some (.int .i64 ((rd_T47 t254 x11_1).f2)) := (blk_cell BK258.out 2).trans rfl
             have hcz102_3 : wr.cell? ⟨gb258, 3, none⟩ = some (.int .i64 ((rd_T47 t254 x11_1).f3)) := (blk_cell BK258.out 3).trans rfl
             have hcz102_4 : wr.cell? ⟨gb258, 4, none⟩ = some (.int .i64 ((rd_T47 t254 x11_1).f4)) := (blk_cell BK258.out 4).trans rfl
             have hfz102_0 := blk_frozen BK258.out 0
             have hfz102_1 := blk_frozen BK258.out 1
             have hfz102_2 := blk_frozen BK258.out 2
             have hfz102_3 := blk_frozen BK258.out 3
             have hfz102_4 := blk_frozen BK258.out 4
             have p263 : 0 ≤ (((rd_T47 t254 x11_1).f1) : Int) := of_decide_eq_true (by first | (with_reducible assumption) | assumption)
             have q263 : ((rd_T47 t254 x11_1).f1) < (t248.length : Int) := of_decide_eq_true (by first | (with_reducible assumption) | assumption)
             obtain ⟨ad263, e263, hx263_0⟩ := Kd.at_int (Kd.R_reads' HO_8.out).2.2 ((rd_T47 t254 x11_1).f1) p263 q263
             cases e263
             replace p263 := eq_true p263
             replace q263 := eq_true q263
             go_wp2
             repeat (go_quiet (fail); try go_wp2)
             go_meet
             case rel => exact ⟨_, (false), (by first | rfl | (simp; done) | (simp [*]; done)), H', ⟨by have := HK1.out; have := HJ30.out; have := HJ48.out; have := HK4.out; first | omega | exact Nat.le_refl _⟩, ⟨by exact rU HO_8.out⟩, ⟨by exact rU HO_10.out⟩, ⟨by exact vU HO_247003.out⟩, ⟨by exact vU HO_247004.out⟩, ⟨by exact vU HO_247005.out⟩, ⟨by (with_reducible repeat (first | refine blk_drewN ?_ _ | refine blk_drew ?_ | refine blk_alloc ?_ _)); exact BK231.out⟩, ⟨by (with_reducible repeat (first | refine blk_drewN ?_ _ | refine blk_drew ?_ | refine blk_alloc ?_ _)); exact BK246.out⟩, ⟨by (with_reducible repeat (first | refine blk_drewN ?_ _ | refine blk_drew ?_ | refine blk_alloc ?_ _)); exact BK258.out⟩, ⟨by repeat (first | (with_reducible first | exact HB.out | apply below_alloc | apply pw_below_drewN | apply below_drew1 | refine below_set ?_ GE231.out | refine below_set ?_ GE246.out | refine below_set ?_ GE258.out) | exact HB.out)⟩⟩
           rw [if_pos c96] at H
           have c96b0 : decide (48 ≤ (rd t248 ((rd_T47 t254 x11_1).f1))) = true := decide_eq_true c96
           clear c96
           have H' := Aside0.mk H
           clear H
           have hnb97 := NB258_231.out
           have hnc97 := NB231_258.out
           have hnb98 := NB258_246.out
           have hnc98 := NB246_258.out
           have hcz99_0 : wr.cell? ⟨gb258, 0, none⟩ = some (.int .i64 ((rd_T47 t254 x11_1).f0)) := (blk_cell BK258.out 0).trans rfl
           have hcz99_1 : wr.cell? ⟨gb258, 1, none⟩ = some (.int .i64 ((rd_T47 t254 x11_1).f1)) := (blk_cell BK258.out 1).trans rfl
           have hcz99_2 : wr.cell? ⟨gb258, 2, none⟩ = some (.int .i64 ((rd_T47 t254 x11_1).f2)) := (blk_cell BK258.out 2).trans rfl
           have hcz99_3 : wr.cell? ⟨gb258, 3, none⟩ = some (.int .i64 ((rd_T47 t254 x11_1).f3)) := (blk_cell BK258.out 3).trans rfl
           have hcz99_4 : wr.cell? ⟨gb258, 4, none⟩ = some (.int .i64 ((rd_T47 t254 x11_1).f4)) := (blk_cell BK258.out 4).trans rfl
           have hfz99_0 := blk_frozen BK258.out 0
           have hfz99_1 := blk_frozen BK258.out 1
           have hfz99_2 := blk_frozen BK258.out 2
           have hfz99_3 := blk_frozen BK258.out 3
           have hfz99_4 := blk_frozen BK258.out 4
           have p263 : 0 ≤ (((rd_T47 t254 x11_1).f1) : Int) := of_decide_eq_true (by first | (with_reducible assumption) | assumption)
           have q263 : ((rd_T47 t254 x11_1).f1) < (t248.length : Int) := of_decide_eq_true (by first | (with_reducible assumption) | assumption)
           obtain ⟨ad263, e263, hx263_0⟩ := Kd.at_int (Kd.R_reads' HO_8.out).2.2 ((rd_T47 t254 x11_1).f1) p263 q263
           cases e263
           replace p263 := eq_true p263
           replace q263 := eq_true q263
           have p264 : 0 ≤ (((rd_T47 t254 x11_1).f1) : Int) := of_decide_eq_true (by first | (with_reducible assumption) | assumption)
           have q264 : ((rd_T47 t254 x11_1).f1) < (t248.length : Int) := of_decide_eq_true (by first | (with_reducible assumption) | assumption)
           obtain ⟨ad264, e264, hx264_0⟩ := Kd.at_int (Kd.R_reads' HO_8.out).2.2 ((rd_T47 t254 x11_1).f1) p264 q264
           obtain rfl : ad263 = ad264 := (by injection e264)
           replace p264 := eq_true p264
           replace q264 := eq_true q264
           go_wp2
           repeat (go_quiet (fail); try go_wp2)
           go_meet
           case rel => exact ⟨_, (decide ((rd t248 ((rd_T47 t254 x11_1).f1)) ≤ 57)), (by first | rfl | (simp; done) | (simp [*]; done)), H', ⟨by have := HK1.out; have := HJ30.out; have := HJ48.out; have := HK4.out; first | omega | exact Nat.le_refl _⟩, ⟨by exact rU HO_8.out⟩, ⟨by exact rU HO_10.out⟩, ⟨by exact vU HO_247003.out⟩, ⟨by exact vU HO_247004.out⟩, ⟨by exact vU HO_247005.out⟩, ⟨by (with_reducible repeat (first | refine blk_drewN ?_ _ | refine blk_drew ?_ | refine blk_alloc ?_ _)); exact BK231.out⟩, ⟨by (with_reducible repeat (first | refine blk_drewN ?_ _ | refine blk_drew ?_ | refine blk_alloc ?_ _)); exact BK246.out⟩, ⟨by (with_reducible repeat (first | refine blk_drewN ?_ _ | refine blk_drew ?_ | refine blk_alloc ?_ _)); exact BK258.out⟩, ⟨by repeat (first | (with_reducible first | exact HB.out | apply below_alloc | apply pw_below_drewN | apply below_drew1 | refine below_set ?_ GE231.out | refine below_set ?_ GE246.out | refine below_set ?_ GE258.out) | exact HB.out)⟩⟩
          case rest =>
           clear HC88
           try clear c1
           try clear c2
           try clear p2
           try clear q2
           try clear hx2
           try clear c3
           try clear c4
           try clear c5
           try clear c6
           try clear p6
           try clear c7
           try clear c8
           try clear c9
           try clear c10
           try clear c11
           try clear c19
           try clear p25
           try clear q25
           try clear hx25
           try clear p26
           try clear q26
           try clear hx26
           try clear c29
           try clear c29b0
           try clear c30
           try clear c30b0
           try clear c34
           try clear c35
           try clear c37
           try clear c37b0
           try clear c38
           try clear c39
           try clear c41
           try clear c41b0
           try clear c42
           try clear c43
           try clear c45
           try clear c46
           try clear c48
           try clear c50
           try clear c51
           try clear c53
           try clear c53b0
           try clear c54
           try clear c54b0
           try clear c55
           try clear c55b0
           try clear c56
           try clear c56b0
           try clear c56b1
           try clear c57
           try clear c58
           try clear c60
           try clear c61
           try clear c63
           try clear c64
           try clear p64
           try clear c66
           try clear c66b0
           try clear c66b1
           try clear c67
           try clear c68
           try clear c70
           try clear c70b0
           try clear c70b1
           try clear c71
           try clear c72
           try clear c74
           try clear c74b0
           try clear c75
           try clear c75b0
           try clear c76
           try clear c76b0
           try clear c77
           try clear c77b0
           try clear c78
           try clear c79
           try clear c81
           try clear c81b0
           try clear c82
           try clear c83
           try clear c85
           try clear c86
           try clear c89
           try clear c90
           try clear c92
           try clear c92b0
           try clear c92b1
           try clear c93
           try clear c93b0
           try clear c93b1
           try clear c94
           try clear c94b0
           try clear c95
           try clear c95b0
           try clear c96
           try clear c96b0
           try clear c97
           try clear c98
           try clear c100
           try clear c101
           try clear c103
           try clear c104
           try clear c106
           try clear c107
           try clear c109
           try clear c110
           try clear hcz102_0
           try clear hcz102_1
           try clear hcz102_2
           try clear hcz102_3
           try clear hcz102_4
           try clear hcz105_0
           try clear hcz105_1
           try clear hcz105_2
           try clear hcz105_3
           try clear hcz105_4
           try clear hcz108_0
           try clear hcz108_1
           try clear hcz108_2
           try clear hcz108_3
           try clear hcz108_4
           try clear hcz111_0
           try clear hcz111_1
           try clear hcz111_2
           try clear hcz111_3
           try clear hcz111_4
           try clear hcz14_0
           try clear hcz14_1
           try clear hcz14_2
           try clear hcz14_3
           try clear hcz14_4
           try clear hcz14_5
           try clear hcz16_0
           try clear hcz16_1
           try clear hcz16_2
           try clear hcz16_3
           try clear hcz16_4
           try clear hcz16_5
           try clear hcz20_0
           try clear hcz20_1
           try clear hcz20_2
           try clear hcz20_3
           try clear hcz20_4
           try clear hcz20_5
           try clear hcz26_0
           try clear hcz26_1
           try clear hcz26_2
           try clear hcz26_3
           try clear hcz26_4
           try clear hcz26_5
           try clear hcz36_0
           try clear hcz36_1
           try clear hcz36_2
           try clear hcz36_3
           try clear hcz36_4
           try clear hcz40_0
           try clear hcz40_1
           try clear hcz40_2
           try clear hcz40_3
           try clear hcz40_4
           try clear hcz44_0
           try clear hcz44_1
           try clear hcz44_2
           try clear hcz44_3
           try clear hcz44_4
           try clear hcz47_0
           try clear hcz47_1
           try clear hcz47_2
           try clear hcz47_3
           try clear hcz47_4
           try clear hcz52_0
           try clear hcz52_1
           try clear hcz52_2
           try clear hcz52_3
           try clear hcz52_4
           try clear hcz59_0
           try clear hcz59_1
           try clear hcz59_2
           try clear hcz59_3
           try clear hcz59_4
           try clear hcz62_0
           try clear hcz62_1
           try clear hcz62_2
           try clear hcz62_3
           try clear hcz62_4
           try clear hcz65_0
           try clear hcz65_1
           try clear hcz65_2
           try clear hcz65_3
           try clear hcz65_4
           try clear hcz69_0
           try clear hcz69_1
           try clear hcz69_2
           try clear hcz69_3
           try clear hcz69_4
           try clear hcz73_0
           try clear hcz73_1
           try clear hcz73_2
           try clear hcz73_3
           try clear hcz73_4
           try clear hcz80_0
           try clear hcz80_1
           try clear hcz80_2
           try clear hcz80_3
           try clear hcz80_4
           try clear hcz84_0
           try clear hcz84_1
           try clear hcz84_2
           try clear hcz84_3
           try clear hcz84_4
           try clear hcz87_0
           try clear hcz87_1
           try clear hcz87_2
           try clear hcz87_3
           try clear hcz87_4
           try clear hcz91_0
           try clear hcz91_1
           try clear hcz91_2
           try clear hcz91_3
           try clear hcz91_4
           try clear hcz99_0
           try clear hcz99_1
           try clear hcz99_2
           try clear hcz99_3
           try clear hcz99_4
           try clear hfz102_0
           try clear hfz102_1
           try clear hfz102_2
           try clear hfz102_3
           try clear hfz102_4
           try clear hfz105_0
           try clear hfz105_1
           try clear hfz105_2
           try clear hfz105_3
           try clear hfz105_4
           try clear hfz108_0
           try clear hfz108_1
           try clear hfz108_2
           try clear hfz108_3
           try clear hfz108_4
           try clear hfz111_0
           try clear hfz111_1
           try clear hfz111_2
           try clear hfz111_3
           try clear hfz111_4
           try clear hfz14_0
           try clear hfz14_1
           try clear hfz14_2
           try clear hfz14_3
           try clear hfz14_4
           try clear hfz14_5
           try clear hfz16_0
           try clear hfz16_1
           try clear hfz16_2
           try clear hfz16_3
           try clear hfz16_4
           try clear hfz16_5
           try clear hfz20_0
           try clear hfz20_1
           try clear hfz20_2
           try clear hfz20_3
           try clear hfz20_4
           try clear hfz20_5
           try clear hfz26_0
           try clear hfz26_1
           try clear hfz26_2
           try clear hfz26_3
           try clear hfz26_4
           try clear hfz26_5
           try clear hfz36_0
           try clear hfz36_1
           try clear hfz36_2
           try clear hfz36_3
           try clear hfz36_4
           try clear hfz40_0
           try clear hfz40_1
           try clear hfz40_2
           try clear hfz40_3
           try clear hfz40_4
           try clear hfz44_0
           try clear hfz44_1
           try clear hfz44_2
           try clear hfz44_3
           try clear hfz44_4
           try clear hfz47_0
           try clear hfz47_1
           try clear hfz47_2
           try clear hfz47_3
           try clear hfz47_4
           try clear hfz52_0
           try clear hfz52_1
           try clear hfz52_2
           try clear hfz52_3
           try clear hfz52_4
           try clear hfz59_0
           try clear hfz59_1
           try clear hfz59_2
           try clear hfz59_3
           try clear hfz59_4
           try clear hfz62_0
           try clear hfz62_1
           try clear hfz62_2
           try clear hfz62_3
           try clear hfz62_4
           try clear hfz65_0
           try clear hfz65_1
           try clear hfz65_2
           try clear hfz65_3
           try clear hfz65_4
           try clear hfz69_0
           try clear hfz69_1
           try clear hfz69_2
           try clear hfz69_3
           try clear hfz69_4
           try clear hfz73_0
           try clear hfz73_1
           try clear hfz73_2
           try clear hfz73_3
           try clear hfz73_4
           try clear hfz80_0
           try clear hfz80_1
           try clear hfz80_2
           try clear hfz80_3
           try clear hfz80_4
           try clear hfz84_0
           try clear hfz84_1
           try clear hfz84_2
           try clear hfz84_3
           try clear hfz84_4
           try clear hfz87_0
           try clear hfz87_1
           try clear hfz87_2
           try clear hfz87_3
           try clear hfz87_4
           try clear hfz91_0
           try clear hfz91_1
           try clear hfz91_2
           try clear hfz91_3
           try clear hfz91_4
           try clear hfz99_0
           try clear hfz99_1
           try clear hfz99_2
           try clear hfz99_3
           try clear hfz99_4
           try clear hx257_0
           try clear hx257_1
           try clear hx257_2
           try clear hx257_3
           try clear hx257_4
           try clear hx259_0
           try clear hx260_0
           try clear hx261_0
           try clear hx262_0
           try clear hx263_0
           try clear hx264_0
           try clear p2
           try clear p25
           try clear p257
           try clear p259
           try clear p260
           try clear p261
           try clear p262
           try clear p263
           try clear p264
           try clear p6
           try clear p64
           try clear q2
           try clear q25
           try clear q257
           try clear q259
           try clear q260
           try clear q261
           try clear q262
           try clear q263
           try clear q264
           obtain ⟨kq, x144_87, rfl, HA, HJ87, HO_8, HO_10, HO_247003, HO_247004, HO_247005, BK231, BK246, BK258, HB⟩ := hcut
           cases kq with
           | zero => exact absurd HA.out (by simp [interlocutorlaw6_LexPlaces.j5])
           | succ kj87 =>
            have H := HA.out
            clear HA
            simp only [interlocutorlaw6_LexPlaces.j5] at H
            by_cases c112 : x144_87 = true
            · subst c112
              have H1 : (some false) = some r := by rw [if_pos rfl] at H; exact H
              clear H
              have H := H1
              clear H1
              obtain rfl := Option.some.inj H
              go_wp2
              repeat (go_quiet (fail); try go_wp2)
              go_ret
              exact ⟨by first | rfl | (simp [errW_none, errW_some] <;> rfl) | (simp [*, errW_none, errW_some] <;> rfl), by repeat (first | (with_reducible first | exact HB.out | apply below_alloc | apply pw_below_drewN | apply below_drew1 | refine below_set ?_ GE231.out | refine below_set ?_ GE246.out | refine below_set ?_ GE258.out) | exact HB.out)⟩
            replace c112 := Bool.eq_false_iff.mpr c112
            subst c112
            have H1 : (if x11_1 > 0 then (if 0 ≤ (wrap64 (x11_1 - 1)) then (if (wrap64 (x11_1 - 1)) < (t254.length : Int) then (if ((rd_T47 t254 (wrap64 (x11_1 - 1))).f0) > ((rd_T47 t254 x11_1).f0) then (some false) else (if (((rd_T47 t254 (wrap64 (x11_1 - 1))).f0) == ((rd_T47 t254 x11_1).f0) && (((rd_T47 t254 (wrap64 (x11_1 - 1))).f1) == ((rd_T47 t254 x11_1).f1) && (((rd_T47 t254 (wrap64 (x11_1 - 1))).f2) == ((rd_T47 t254 x11_1).f2) && (((rd_T47 t254 (wrap64 (x11_1 - 1))).f3) == ((rd_T47 t254 x11_1).f3) && (((rd_T47 t254 (wrap64 (x11_1 - 1))).f4) == ((rd_T47 t254 x11_1).f4)))))) = true then (some false) else (interlocutorlaw6_LexPlaces.l0 kj87 t248 t254 (wrap64 (x11_1 + 1))))) else (none)) else (none)) else (interlocutorlaw6_LexPlaces.l0 kj87 t248 t254 (wrap64 (x11_1 + 1)))) = some r := by rw [if_neg (show ¬ (false = true) by decide)] at H; exact H
            clear H
            have H := H1
            clear H1
            by_cases c113 : x11_1 > 0
            rotate_left
            · rw [if_neg c113] at H
              have c113b0 : decide (0 < x11_1) = false := decide_eq_false c113
              clear c113
              have H' := Aside0.mk H
              clear H
              go_wp2
              repeat (go_quiet (fail); try go_wp2)
              go_roundg kj87
              case measure => have := HK1.out; have := HJ30.out; have := HJ48.out; have := HK4.out; have := HJ87.out; omega
              case rel => exact ⟨(wrap64 (x11_1 + 1)), (by first | rfl | (simp; done) | (simp [*]; done)), H', ⟨by have := HK1.out; have := HJ30.out; have := HJ48.out; have := HK4.out; have := HJ87.out; omega⟩, ⟨by exact rU HO_8.out⟩, ⟨by exact rU (Kd.R_mono HO_10.out (fun _ hk => trivial))⟩, ⟨by exact vU (Kd.V_mono HO_247003.out (fun _ hk => ⟨hk.1, ⟨hk.2.1, ⟨hk.2.2.1, hk.2.2.2.1⟩⟩⟩))⟩, ⟨by exact vU (Kd.V_mono HO_247004.out (fun _ hk => ⟨hk.1, ⟨hk.2.1, ⟨hk.2.2.1, hk.2.2.2.1⟩⟩⟩))⟩, ⟨by exact vU (Kd.V_mono HO_247005.out (fun _ hk => ⟨hk.1, ⟨hk.2.1, ⟨hk.2.2.1, hk.2.2.2.1⟩⟩⟩))⟩, ⟨by (with_reducible repeat (first | refine blk_drewN ?_ _ | refine blk_drew ?_ | refine blk_alloc ?_ _)); exact BK231.out⟩, ⟨by (with_reducible repeat (first | refine blk_drewN ?_ _ | refine blk_drew ?_ | refine blk_alloc ?_ _)); exact BK246.out⟩, ⟨by repeat (first | (with_reducible first | exact HB.out | apply below_alloc | apply pw_below_drewN | apply below_drew1 | refine below_set ?_ GE231.out | refine below_set ?_ GE246.out | refine below_set ?_ GE258.out) | exact HB.out)⟩⟩
            rw [if_pos c113] at H
            have c113b0 : decide (0 < x11_1) = true := decide_eq_true c113
            clear c113
            obtain ⟨ji114, hji114⟩ : ∃ j_ : Int, (wrap64 (x11_1 - 1)) = j_ := ⟨_, rfl⟩
            replace H : (if 0 ≤ (ji114) then (if (ji114) < (t254.length : Int) then (if ((rd_T47 t254 (ji114)).f0) > ((rd_T47 t254 x11_1).f0) then (some false) else (if (((rd_T47 t254 (ji114)).f0) == ((rd_T47 t254 x11_1).f0) && (((rd_T47 t254 (ji114)).f1) == ((rd_T47 t254 x11_1).f1) && (((rd_T47 t254 (ji114)).f2) == ((rd_T47 t254 x11_1).f2) && (((rd_T47 t254 (ji114)).f3) == ((rd_T47 t254 x11_1).f3) && (((rd_T47 t254 (ji114)).f4) == ((rd_T47 t254 x11_1).f4)))))) = true then (some false) else (interlocutorlaw6_LexPlaces.l0 kj87 t248 t254 (wrap64 (x11_1 + 1))))) else (none)) else (none)) = some r := by first | (rw [hji114] at H; exact H) | (simp only [hji114] at H ⊢; exact H)
            have hji114w : (IntKind.i64.wrap (x11_1 - 1)) = ji114 := (i64_w _).trans hji114
            by_cases c115 : 0 ≤ (ji114)
            rotate_left
            · rw [if_neg c115] at H
              exact absurd H (by simp)
            rw [if_pos c115] at H
            have c115b0 : decide (0 ≤ (ji114)) = true := decide_eq_true c115
            clear c115
            by_cases c116 : (ji114) < (t254.length : Int)
            rotate_left
            · rw [if_neg c116] at H
              exact absurd H (by simp)
            rw [if_pos c116] at H
            have c116b0 : decide ((ji114) < (t254.length : Int)) = true := decide_eq_true c116
            clear c116
            by_cases c117 : ((rd_T47 t254 (ji114)).f0) > ((rd_T47 t254 x11_1).f0)
            · rw [if_pos c117] at H
              have c117b0 : decide (((rd_T47 t254 x11_1).f0) < ((rd_T47 t254 (ji114)).f0)) = true := decide_eq_true c117
              clear c117
              obtain rfl := Option.some.inj H
              have p265 : 0 ≤ ((ji114) : Int) := of_decide_eq_true (by first | (with_reducible assumption) | assumption)
              have q265 : (ji114) < (t254.length : Int) := of_decide_eq_true (by first | (with_reducible assumption) | assumption)
              obtain ⟨ad265, e265, hx265_0, hx265_1, hx265_2, hx265_3, hx265_4⟩ := at_T47 (Kd.R_reads' HO_10.out).2.2 (ji114) p265 q265
              obtain rfl : ad257 = ad265 := (by injection e265)
              replace p265 := eq_true p265
              replace q265 := eq_true q265
              have hnb118 := NB258_231.out
              have hnc118 := NB231_258.out
              have hnb119 := NB258_246.out
              have hnc119 := NB246_258.out
              have hcz120_0 : wc.cell? ⟨gb258, 0, none⟩ = some (.int .i64 ((rd_T47 t254 x11_1).f0)) := (blk_cell BK258.out 0).trans rfl
              have hcz120_1 : wc.cell? ⟨gb258, 1, none⟩ = some (.int .i64 ((rd_T47 t254 x11_1).f1)) := (blk_cell BK258.out 1).trans rfl
              have hcz120_2 : wc.cell? ⟨gb258, 2, none⟩ = some (.int .i64 ((rd_T47 t254 x11_1).f2)) := (blk_cell BK258.out 2).trans rfl
              have hcz120_3 : wc.cell? ⟨gb258, 3, none⟩ = some (.int .i64 ((rd_T47 t254 x11_1).f3)) := (blk_cell BK258.out 3).trans rfl
              have hcz120_4 : wc.cell? ⟨gb258, 4, none⟩ = some (.int .i64 ((rd_T47 t254 x11_1).f4)) := (blk_cell BK258.out 4).trans rfl
              have hfz120_0 := blk_frozen BK258.out 0
              have hfz120_1 := blk_frozen BK258.out 1
              have hfz120_2 := blk_frozen BK258.out 2
              have hfz120_3 := blk_frozen BK258.out 3
              have hfz120_4 := blk_frozen BK258.out 4
              go_wp2
              repeat (go_quiet (fail); try go_wp2)
              go_ret
              exact ⟨by first | rfl | (simp [errW_none, errW_some] <;> rfl) | (simp only [← hji114]; first | rfl | (simp [errW_none, errW_some] <;> rfl)) | (simp [*, errW_none, errW_some] <;> rfl), by repeat (first | (with_reducible first | exact HB.out | apply below_alloc | apply pw_below_drewN | apply below_drew1 | refine below_set ?_ GE231.out | refine below_set ?_ GE246.out | refine below_set ?_ GE258.out) | exact HB.out)⟩
            rw [if_neg c117] at H
            have c117b0 : decide (((rd_T47 t254 x11_1).f0) < ((rd_T47 t254 (ji114)).f0)) = false := decide_eq_false c117
            clear c117
            by_cases c121 : (((rd_T47 t254 (ji114)).f0) == ((rd_T47 t254 x11_1).f0) && (((rd_T47 t254 (ji114)).f1) == ((rd_T47 t254 x11_1).f1) && (((rd_T47 t254 (ji114)).f2) == ((rd_T47 t254 x11_1).f2) && (((rd_T47 t254 (ji114)).f3) == ((rd_T47 t254 x11_1).f3) && (((rd_T47 t254 (ji114)).f4) == ((rd_T47 t254 x11_1).f4)))))) = true
            · rw [if_pos c121] at H
              have c121b0 : (((rd_T47 t254 (ji114)).f0) == ((rd_T47 t254 x11_1).f0) && (((rd_T47 t254 (ji114)).f1) == ((rd_T47 t254 x11_1).f1) && (((rd_T47 t254 (ji114)).f2) == ((rd_T47 t254 x11_1).f2) && (((rd_T47 t254 (ji114)).f3) == ((rd_T47 t254 x11_1).f3) && (((rd_T47 t254 (ji114)).f4) == ((rd_T47 t254 x11_1).f4)))))) = true := c121
              (try (have c121b1 : decide (((rd_T47 t254 (ji114)).f0) = ((rd_T47 t254 x11_1).f0) && (((rd_T47 t254 (ji114)).f1) == ((rd_T47 t254 x11_1).f1) && (((rd_T47 t254 (ji114)).f2) == ((rd_T47 t254 x11_1).f2) && (((rd_T47 t254 (ji114)).f3) == ((rd_T47 t254 x11_1).f3) && (((rd_T47 t254 (ji114)).f4) == ((rd_T47 t254 x11_1).f4)))))) = true := by simpa using c121))
              (try (have c121b2 : (((rd_T47 t254 (ji114)).f0) == ((rd_T47 t254 x11_1).f0) && (((rd_T47 t254 (ji114)).f1) == ((rd_T47 t254 x11_1).f1) && (((rd_T47 t254 (ji114)).f2) == ((rd_T47 t254 x11_1).f2) && (((rd_T47 t254 (ji114)).f3) == ((rd_T47 t254 x11_1).f3) && (((rd_T47 t254 (ji114)).f4) == ((rd_T47 t254 x11_1).f4)))))) = true := by simpa using c121))
              clear c121
              obtain rfl := Option.some.inj H
              have p265 : 0 ≤ ((ji114) : Int) := of_decide_eq_true (by first | (with_reducible assumption) | assumption)
              have q265 : (ji114) < (t254.length : Int) := of_decide_eq_true (by first | (with_reducible assumption) | assumption)
              obtain ⟨ad265, e265, hx265_0, hx265_1, hx265_2, hx265_3, hx265_4⟩ := at_T47 (Kd.R_reads' HO_10.out).2.2 (ji114) p265 q265
              obtain rfl : ad257 = ad265 := (by injection e265)
              replace p265 := eq_true p265
              replace q265 := eq_true q265
              have hnb122 := NB258_231.out
              have hnc122 := NB231_258.out
              have hnb123 := NB258_246.out
              have hnc123 := NB246_258.out
              have hcz124_0 : wc.cell? ⟨gb258, 0, none⟩ = some (.int .i64 ((rd_T47 t254 x11_1).f0)) := (blk_cell BK258.out 0).trans rfl
              have hcz124_1 : wc.cell? ⟨gb258, 1, none⟩ = some (.int .i64 ((rd_T47 t254 x11_1).f1)) := (blk_cell BK258.out 1).trans rfl
              have hcz124_2 : wc.cell? ⟨gb258, 2, none⟩ = some (.int .i64 ((rd_T47 t254 x11_1).f2)) := (blk_cell BK258.out 2).trans rfl
              have hcz124_3 : wc.cell? ⟨gb258, 3, none⟩ = some (.int .i64 ((rd_T47 t254 x11_1).f3)) := (blk_cell BK258.out 3).trans rfl
              have hcz124_4 : wc.cell? ⟨gb258, 4, none⟩ = some (.int .i64 ((rd_T47 t254 x11_1).f4)) := (blk_cell BK258.out 4).trans rfl
              have hfz124_0 := blk_frozen BK258.out 0
              have hfz124_1 := blk_frozen BK258.out 1
              have hfz124_2 := blk_frozen BK258.out 2
              have hfz124_3 := blk_frozen BK258.out 3
              have hfz124_4 := blk_frozen BK258.out 4
              have p266 : 0 ≤ ((ji114) : Int) := of_decide_eq_true (by first | (with_reducible assumption) | assumption)
              have q266 : (ji114) < (t254.length : Int) := of_decide_eq_true (by first | (with_reducible assumption) | assumption)
              obtain ⟨ad266, e266, hx266_0, hx266_1, hx266_2, hx266_3, hx266_4⟩ := at_T47 (Kd.R_reads' HO_10.out).2.2 (ji114) p266 q266
              obtain rfl : ad257 = ad266 := (by injection e266)
              replace p266 := eq_true p266
              replace q266 := eq_true q266
              go_wp2
              repeat (go_quiet (fail); try go_wp2)
              go_ret
              exact ⟨by first | rfl | (simp [errW_none, errW_some] <;> rfl) | (simp only [← hji114]; first | rfl | (simp [errW_none, errW_some] <;> rfl)) | (simp [*, errW_none, errW_some] <;> rfl), by repeat (first | (with_reducible first | exact HB.out | apply below_alloc | apply pw_below_drewN | apply below_drew1 | refine below_set ?_ GE231.out | refine below_set ?_ GE246.out | refine below_set ?_ GE258.out) | exact HB.out)⟩
            rw [if_neg c121] at H
            have c121b0 : (((rd_T47 t254 (ji114)).f0) == ((rd_T47 t254 x11_1).f0) && (((rd_T47 t254 (ji114)).f1) == ((rd_T47 t254 x11_1).f1) && (((rd_T47 t254 (ji114)).f2) == ((rd_T47 t254 x11_1).f2) && (((rd_T47 t254 (ji114)).f3) == ((rd_T47 t254 x11_1).f3) && (((rd_T47 t254 (ji114)).f4) == ((rd_T47 t254 x11_1).f4)))))) = false := by simpa using c121
            (try (have c121b1 : decide (((rd_T47 t254 (ji114)).f0) = ((rd_T47 t254 x11_1).f0) && (((rd_T47 t254 (ji114)).f1) == ((rd_T47 t254 x11_1).f1) && (((rd_T47 t254 (ji114)).f2) == ((rd_T47 t254 x11_1).f2) && (((rd_T47 t254 (ji114)).f3) == ((rd_T47 t254 x11_1).f3) && (((rd_T47 t254 (ji114)).f4) == ((rd_T47 t254 x11_1).f4)))))) = false := by simpa using c121))
            (try (have c121b2 : (((rd_T47 t254 (ji114)).f0) == ((rd_T47 t254 x11_1).f0) && (((rd_T47 t254 (ji114)).f1) == ((rd_T47 t254 x11_1).f1) && (((rd_T47 t254 (ji114)).f2) == ((rd_T47 t254 x11_1).f2) && (((rd_T47 t254 (ji114)).f3) == ((rd_T47 t254 x11_1).f3) && (((rd_T47 t254 (ji114)).f4) == ((rd_T47 t254 x11_1).f4)))))) = false := by simpa using c121))
            (try (have c121b3 : ¬ (((rd_T47 t254 (ji114)).f0) = ((rd_T47 t254 x11_1).f0) && (((rd_T47 t254 (ji114)).f1) == ((rd_T47 t254 x11_1).f1) && (((rd_T47 t254 (ji114)).f2) == ((rd_T47 t254 x11_1).f2) && (((rd_T47 t254 (ji114)).f3) == ((rd_T47 t254 x11_1).f3) && (((rd_T47 t254 (ji114)).f4) == ((rd_T47 t254 x11_1).f4)))))) := by simpa using c121))
            clear c121
            have H' := Aside0.mk H
            clear H
            have p265 : 0 ≤ ((ji114) : Int) := of_decide_eq_true (by first | (with_reducible assumption) | assumption)
            have q265 : (ji114) < (t254.length : Int) := of_decide_eq_true (by first | (with_reducible assumption) | assumption)
            obtain ⟨ad265, e265, hx265_0, hx265_1, hx265_2, hx265_3, hx265_4⟩ := at_T47 (Kd.R_reads' HO_10.out).2.2 (ji114) p265 q265
            obtain rfl : ad257 = ad265 := (by injection e265)
            replace p265 := eq_true p265
            replace q265 := eq_true q265
            have hnb125 := NB258_231.out
            have hnc125 := NB231_258.out
            have hnb126 := NB258_246.out
            have hnc126 := NB246_258.out
            have hcz127_0 : wc.cell? ⟨gb258, 0, none⟩ = some (.int .i64 ((rd_T47 t254 x11_1).f0)) := (blk_cell BK258.out 0).trans rfl
            have hcz127_1 : wc.cell? ⟨gb258, 1, none⟩ = some (.int .i64 ((rd_T47 t254 x11_1).f1)) := (blk_cell BK258.out 1).trans rfl
            have hcz127_2 : wc.cell? ⟨gb258, 2, none⟩ = some (.int .i64 ((rd_T47 t254 x11_1).f2)) := (blk_cell BK258.out 2).trans rfl
            have hcz127_3 : wc.cell? ⟨gb258, 3, none⟩ = some (.int .i64 ((rd_T47 t254 x11_1).f3)) := (blk_cell BK258.out 3).trans rfl
            have hcz127_4 : wc.cell? ⟨gb258, 4, none⟩ = some (.int .i64 ((rd_T47 t254 x11_1).f4)) := (blk_cell BK258.out 4).trans rfl
            have hfz127_0 := blk_frozen BK258.out 0
            have hfz127_1 := blk_frozen BK258.out 1
            have hfz127_2 := blk_frozen BK258.out 2
            have hfz127_3 := blk_frozen BK258.out 3
            have hfz127_4 := blk_frozen BK258.out 4
            have p266 : 0 ≤ ((ji114) : Int) := of_decide_eq_true (by first | (with_reducible assumption) | assumption)
            have q266 : (ji114) < (t254.length : Int) := of_decide_eq_true (by first | (with_reducible assumption) | assumption)
            obtain ⟨ad266, e266, hx266_0, hx266_1, hx266_2, hx266_3, hx266_4⟩ := at_T47 (Kd.R_reads' HO_10.out).2.2 (ji114) p266 q266
            obtain rfl : ad257 = ad266 := (by injection e266)
            replace p266 := eq_true p266
            replace q266 := eq_true q266
            go_wp2
            repeat (go_quiet (fail); try go_wp2)
            go_roundg kj87
            case measure => have := HK1.out; have := HJ30.out; have := HJ48.out; have := HK4.out; have := HJ87.out; omega
            case rel => exact ⟨(wrap64 (x11_1 + 1)), (by first | rfl | (simp; done) | (simp [*]; done)), H', ⟨by have := HK1.out; have := HJ30.out; have := HJ48.out; have := HK4.out; have := HJ87.out; omega⟩, ⟨by exact rU HO_8.out⟩, ⟨by exact rU (Kd.R_mono HO_10.out (fun _ hk => trivial))⟩, ⟨by exact vU (Kd.V_mono HO_247003.out (fun _ hk => ⟨hk.1, ⟨hk.2.1, ⟨hk.2.2.1, hk.2.2.2.1⟩⟩⟩))⟩, ⟨by exact vU (Kd.V_mono HO_247004.out (fun _ hk => ⟨hk.1, ⟨hk.2.1, ⟨hk.2.2.1, hk.2.2.2.1⟩⟩⟩))⟩, ⟨by exact vU (Kd.V_mono HO_247005.out (fun _ hk => ⟨hk.1, ⟨hk.2.1, ⟨hk.2.2.1, hk.2.2.2.1⟩⟩⟩))⟩, ⟨by (with_reducible repeat (first | refine blk_drewN ?_ _ | refine blk_drew ?_ | refine blk_alloc ?_ _)); exact BK231.out⟩, ⟨by (with_reducible repeat (first | refine blk_drewN ?_ _ | refine blk_drew ?_ | refine blk_alloc ?_ _)); exact BK246.out⟩, ⟨by repeat (first | (with_reducible first | exact HB.out | apply below_alloc | apply pw_below_drewN | apply below_drew1 | refine below_set ?_ GE231.out | refine below_set ?_ GE246.out | refine below_set ?_ GE258.out) | exact HB.out)⟩⟩
end Go.Proofs.Ytgbnfjhmobeloaa.G
