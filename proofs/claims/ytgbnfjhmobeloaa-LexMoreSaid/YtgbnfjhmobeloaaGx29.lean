import Derived.Test.YtgbnfjhmobeloaaGx0
import Derived.Test.YtgbnfjhmobeloaaGx1
import Derived.Test.YtgbnfjhmobeloaaGx6
import Derived.Test.YtgbnfjhmobeloaaGx13
import Derived.Test.YtgbnfjhmobeloaaGx14
import Derived.Test.YtgbnfjhmobeloaaGx15
import Derived.Test.YtgbnfjhmobeloaaGx26
import Derived.Test.YtgbnfjhmobeloaaGx28
namespace Go.Proofs.Ytgbnfjhmobeloaa.G
open Go.RowKit Go.Proofs.YtgbnfjhmobeloaaW.PrintWords Go.Proofs.YtgbnfjhmobeloaaW.PrintLast Go.Proofs.YtgbnfjhmobeloaaW.PrintMore Go.Proofs.YtgbnfjhmobeloaaW.VWords
attribute [local go_sem] max2_int min2_int max_two min_two max_three min_three max_four min_four
set_option linter.unusedVariables false
set_option linter.unusedSimpArgs false
attribute [local go_sem high] eqA47
mutual
def interlocutorlaw6_LexMore.j0 : Nat → List Int → Int → Int → Bool → ByteArray → Int → Int → List (S53) → List (S108) → List (S138) → Option (Bool)
 | 0, _, _, _, _, _, _, _, _, _, _ => none
 | k + 1, x10, x12, x13, x63, x297000, x297001, x297002, x297003, x297004, x297005 => if x63 = true then (some true) else (interlocutorlaw6_LexMore.l0 k x10 x12 x13 (⟨#[]⟩ : ByteArray) x12 x297000 x297001 x297002 x297003 x297004 x297005)
def interlocutorlaw6_LexMore.j2 : Nat → List Int → ByteArray → ByteArray → Int → Int → List (S53) → List (S108) → List (S138) → Option (Bool)
 | 0, _, _, _, _, _, _, _, _ => none
 | k + 1, x10, x14, x297000, x297001, x297002, x297003, x297004, x297005 => (some (([] : List (S53)) : List (S53))).bind fun y311 => (if y311.length + x297003.length < 4398046511104 then ((some (y311 ++ x297003 : List (S53))).bind fun y314 => (if y314.length < 4398046511104 then ((lex_Tokens.f x297000 x297001 x297002 x297003 x297004 x297005 x10).bind fun t320 => ((lex_Tokens.f x297000 x297001 x297002 (y314 ++ [(⟨x14, 9, 77⟩ : S53)]) x297004 x297005 x10).bind fun t323 => (interlocutorlaw6_LexMore.l1 k t320 t323 0 0))) else (none))) else (none))
def interlocutorlaw6_LexMore.l1 : Nat → List (S47) → List (S47) → Int → Int → Option (Bool)
 | 0, _, _, _, _ => none
 | k + 1, x17, x18, x19, x20 => if x20 < (x18.length : Int) then (if x19 < (x17.length : Int) then (if 0 ≤ x20 then (if 0 ≤ x19 then (interlocutorlaw6_LexMore.j4 k x17 x18 x19 x20 (((rd_T47 x18 x20).f0) == ((rd_T47 x17 x19).f0) && (((rd_T47 x18 x20).f1) == ((rd_T47 x17 x19).f1) && (((rd_T47 x18 x20).f2) == ((rd_T47 x17 x19).f2) && (((rd_T47 x18 x20).f3) == ((rd_T47 x17 x19).f3) && (((rd_T47 x18 x20).f4) == ((rd_T47 x17 x19).f4))))))) else (none)) else (none)) else (interlocutorlaw6_LexMore.j4 k x17 x18 x19 x20 false)) else (if x19 = (x17.length : Int) then (some (decide ((x18.length : Int) > (x17.length : Int)))) else (some false))
def interlocutorlaw6_LexMore.j4 : Nat → List (S47) → List (S47) → Int → Int → Bool → Option (Bool)
 | 0, _, _, _, _, _ => none
 | k + 1, x17, x18, x19, x20, x121 => if x121 = true then (interlocutorlaw6_LexMore.l1 k x17 x18 (wrap64 (x19 + 1)) (wrap64 (x20 + 1))) else (if 0 ≤ x20 then (if x20 < (x18.length : Int) then (if ((rd_T47 x18 x20).f2) = 9 then (if ((rd_T47 x18 x20).f3) = 77 then (interlocutorlaw6_LexMore.l1 k x17 x18 x19 (wrap64 (x20 + 1))) else (some false)) else (some false)) else (none)) else (none))
def interlocutorlaw6_LexMore.l0 : Nat → List Int → Int → Int → ByteArray → Int → ByteArray → Int → Int → List (S53) → List (S108) → List (S138) → Option (Bool)
 | 0, _, _, _, _, _, _, _, _, _, _, _ => none
 | k + 1, x10, x12, x13, x14, x15, x297000, x297001, x297002, x297003, x297004, x297005 => if x15 < (wrap64 (x12 + x13)) then (if x15 < (x10.length : Int) then (if 0 ≤ x15 then ((interlocutorref3_One.f (rd x10 x15)).bind fun t309 => (if x14.size + t309.size ≤ 9223372036854775807 then (interlocutorlaw6_LexMore.l0 k x10 x12 x13 (x14 ++ t309) (wrap64 (x15 + 1)) x297000 x297001 x297002 x297003 x297004 x297005) else (none))) else (none)) else (interlocutorlaw6_LexMore.j2 k x10 x14 x297000 x297001 x297002 x297003 x297004 x297005)) else (interlocutorlaw6_LexMore.j2 k x10 x14 x297000 x297001 x297002 x297003 x297004 x297005)
end
def interlocutorlaw6_LexMore.f (k : Nat) (a0_0 : Int) (a0_1 : Int) (a0_2 : Int) (a0_3 : Int) (l0_4 : List (S85)) (a0_5 : Bool) (l1 : List Int) (a2 : Int) (a3 : Int) : Option (Bool) := (interlocutorlaw6_known.f k).bind fun t282 => (if t282 = true then ((interlocutorlaw5_Shape_Few.f k a0_0 a0_1 a0_2 a0_3 l0_4 a0_5).bind fun t283 => (if t283 = true then ((interlocutorlaw6_Locale.f k a0_0 a0_1 a0_2 a0_3 l0_4 a0_5 1).bind fun bt284 => ((interlocutorlaw6_Text.f k l1 8).bind fun t297 => ((interlocutorref3_Fold.f k t297).bind fun bt298 => (if (bt298.1.length : Int) = 0 then (some true) else ((interlocutorlaw6_within.f a2 (bt298.1.length : Int)).bind fun t304 => ((interlocutorlaw6_within.f a3 (mn 5 (wrap64 ((bt298.1.length : Int) - t304)))).bind fun t305 => (if 0 ≤ t304 then (if t304 < (bt298.1.length : Int) then (if (rd bt298.1 t304) = 32 then (interlocutorlaw6_LexMore.j0 k bt298.1 t304 (wrap64 (1 + t305)) true bt284.1 bt284.2.1 bt284.2.2.1 bt284.2.2.2.1 bt284.2.2.2.2.1 bt284.2.2.2.2.2) else (if 0 ≤ (wrap64 ((wrap64 (t304 + (wrap64 (1 + t305)))) - 1)) then (if (wrap64 ((wrap64 (t304 + (wrap64 (1 + t305)))) - 1)) < (bt298.1.length : Int) then (interlocutorlaw6_LexMore.j0 k bt298.1 t304 (wrap64 (1 + t305)) ((rd bt298.1 (wrap64 ((wrap64 (t304 + (wrap64 (1 + t305)))) - 1))) == 32) bt284.1 bt284.2.1 bt284.2.2.1 bt284.2.2.2.1 bt284.2.2.2.2.1 bt284.2.2.2.2.2) else (none)) else (none))) else (none)) else (none)))))))) else (some true))) else (some false))
theorem interlocutorlaw6_LexMore.mono_l : ∀ k, (∀ y0 y1 y2 y3 y4 y5 y6 y7 y8 y9, LeO (interlocutorlaw6_LexMore.j0 k y0 y1 y2 y3 y4 y5 y6 y7 y8 y9) (interlocutorlaw6_LexMore.j0 (k + 1) y0 y1 y2 y3 y4 y5 y6 y7 y8 y9)) ∧ (∀ y0 y1 y2 y3 y4 y5 y6 y7, LeO (interlocutorlaw6_LexMore.j2 k y0 y1 y2 y3 y4 y5 y6 y7) (interlocutorlaw6_LexMore.j2 (k + 1) y0 y1 y2 y3 y4 y5 y6 y7)) ∧ (∀ y0 y1 y2 y3, LeO (interlocutorlaw6_LexMore.l1 k y0 y1 y2 y3) (interlocutorlaw6_LexMore.l1 (k + 1) y0 y1 y2 y3)) ∧ (∀ y0 y1 y2 y3 y4, LeO (interlocutorlaw6_LexMore.j4 k y0 y1 y2 y3 y4) (interlocutorlaw6_LexMore.j4 (k + 1) y0 y1 y2 y3 y4)) ∧ (∀ y0 y1 y2 y3 y4 y5 y6 y7 y8 y9 y10, LeO (interlocutorlaw6_LexMore.l0 k y0 y1 y2 y3 y4 y5 y6 y7 y8 y9 y10) (interlocutorlaw6_LexMore.l0 (k + 1) y0 y1 y2 y3 y4 y5 y6 y7 y8 y9 y10))
 | 0 => ⟨fun _ _ _ _ _ _ _ _ _ _ r h => by simp [interlocutorlaw6_LexMore.j0] at h, fun _ _ _ _ _ _ _ _ r h => by simp [interlocutorlaw6_LexMore.j2] at h, fun _ _ _ _ r h => by simp [interlocutorlaw6_LexMore.l1] at h, fun _ _ _ _ _ r h => by simp [interlocutorlaw6_LexMore.j4] at h, fun _ _ _ _ _ _ _ _ _ _ _ r h => by simp [interlocutorlaw6_LexMore.l0] at h⟩
 | k + 1 => by
  obtain ⟨ih0, ih1, ih2, ih3, ih4⟩ := interlocutorlaw6_LexMore.mono_l k
  refine ⟨?_, ?_, ?_, ?_, ?_⟩
  ·intro y0 y1 y2 y3 y4 y5 y6 y7 y8 y9
   unfold interlocutorlaw6_LexMore.j0
   repeat' first
   | (with_reducible exact ih0 _ _ _ _ _ _ _ _ _ _)
   | (with_reducible exact ih1 _ _ _ _ _ _ _ _)
   | (with_reducible exact ih2 _ _ _ _)
   | (with_reducible exact ih3 _ _ _ _ _)
   | (with_reducible exact ih4 _ _ _ _ _ _ _ _ _ _ _)
   | (with_reducible exact interlocutorlaw5_Shape_Few.mono _ _ _ _ _ _ _)
   | (with_reducible exact interlocutorlaw6_Locale.mono _ _ _ _ _ _ _ _)
   | (with_reducible exact interlocutorlaw6_Text.mono _ _ _)
   | (with_reducible exact interlocutorlaw6_known.mono _)
   | (with_reducible exact interlocutorref3_Fold.mono _ _)
   | (with_reducible exact LeO.refl _)
   | (with_reducible exact LeO.none _)
   | (with_reducible refine LeO.ite ?_ ?_)
   | (with_reducible refine LeO.bind ?_ (fun _ => ?_))
   | exact ih0 _ _ _ _ _ _ _ _ _ _
   | exact ih1 _ _ _ _ _ _ _ _
   | exact ih2 _ _ _ _
   | exact ih3 _ _ _ _ _
   | exact ih4 _ _ _ _ _ _ _ _ _ _ _
   | exact interlocutorlaw5_Shape_Few.mono _ _ _ _ _ _ _
   | exact interlocutorlaw6_Locale.mono _ _ _ _ _ _ _ _
   | exact interlocutorlaw6_Text.mono _ _ _
   | exact interlocutorlaw6_known.mono _
   | exact interlocutorref3_Fold.mono _ _
   | exact LeO.none _
   | refine LeO.ite ?_ ?_
   | refine LeO.bind ?_ (fun _ => ?_)
  ·intro y0 y1 y2 y3 y4 y5 y6 y7
   unfold interlocutorlaw6_LexMore.j2
   repeat' first
   | (with_reducible exact ih0 _ _ _ _ _ _ _ _ _ _)
   | (with_reducible exact ih1 _ _ _ _ _ _ _ _)
   | (with_reducible exact ih2 _ _ _ _)
   | (with_reducible exact ih3 _ _ _ _ _)
   | (with_reducible exact ih4 _ _ _ _ _ _ _ _ _ _ _)
   | (with_reducible exact interlocutorlaw5_Shape_Few.mono _ _ _ _ _ _ _)
   | (with_reducible exact interlocutorlaw6_Locale.mono _ _ _ _ _ _ _ _)
   | (with_reducible exact interlocutorlaw6_Text.mono _ _ _)
   | (with_reducible exact interlocutorlaw6_known.mono _)
   | (with_reducible exact interlocutorref3_Fold.mono _ _)
   | (with_reducible exact LeO.refl _)
   | (with_reducible exact LeO.none _)
   | (with_reducible refine LeO.ite ?_ ?_)
   | (with_reducible refine LeO.bind ?_ (fun _ => ?_))
   | exact ih0 _ _ _ _ _ _ _ _ _ _
   | exact ih1 _ _ _ _ _ _ _ _
   | exact ih2 _ _ _ _
   | exact ih3 _ _ _ _ _
   | exact ih4 _ _ _ _ _ _ _ _ _ _ _
   | exact interlocutorlaw5_Shape_Few.mono _ _ _ _ _ _ _
   | exact interlocutorlaw6_Locale.mono _ _ _ _ _ _ _ _
   | exact interlocutorlaw6_Text.mono _ _ _
   | exact interlocutorlaw6_known.mono _
   | exact interlocutorref3_Fold.mono _ _
   | exact LeO.none _
   | refine LeO.ite ?_ ?_
   | refine LeO.bind ?_ (fun _ => ?_)
  ·intro y0 y1 y2 y3
   unfold interlocutorlaw6_LexMore.l1
   repeat' first
   | (with_reducible exact ih0 _ _ _ _ _ _ _ _ _ _)
   | (with_reducible exact ih1 _ _ _ _ _ _ _ _)
   | (with_reducible exact ih2 _ _ _ _)
   | (with_reducible exact ih3 _ _ _ _ _)
   | (with_reducible exact ih4 _ _ _ _ _ _ _ _ _ _ _)
   | (with_reducible exact interlocutorlaw5_Shape_Few.mono _ _ _ _ _ _ _)
   | (with_reducible exact interlocutorlaw6_Locale.mono _ _ _ _ _ _ _ _)
   | (with_reducible exact interlocutorlaw6_Text.mono _ _ _)
   | (with_reducible exact interlocutorlaw6_known.mono _)
   | (with_reducible exact interlocutorref3_Fold.mono _ _)
   | (with_reducible exact LeO.refl _)
   | (with_reducible exact LeO.none _)
   | (with_reducible refine LeO.ite ?_ ?_)
   | (with_reducible refine LeO.bind ?_ (fun _ => ?_))
   | exact ih0 _ _ _ _ _ _ _ _ _ _
   | exact ih1 _ _ _ _ _ _ _ _
   | exact ih2 _ _ _ _
   | exact ih3 _ _ _ _ _
   | exact ih4 _ _ _ _ _ _ _ _ _ _ _
   | exact interlocutorlaw5_Shape_Few.mono _ _ _ _ _ _ _
   | exact interlocutorlaw6_Locale.mono _ _ _ _ _ _ _ _
   | exact interlocutorlaw6_Text.mono _ _ _
   | exact interlocutorlaw6_known.mono _
   | exact interlocutorref3_Fold.mono _ _
   | exact LeO.none _
   | refine LeO.ite ?_ ?_
   | refine LeO.bind ?_ (fun _ => ?_)
  ·intro y0 y1 y2 y3 y4
   unfold interlocutorlaw6_LexMore.j4
   repeat' first
   | (with_reducible exact ih0 _ _ _ _ _ _ _ _ _ _)
   | (with_reducible exact ih1 _ _ _ _ _ _ _ _)
   | (with_reducible exact ih2 _ _ _ _)
   | (with_reducible exact ih3 _ _ _ _ _)
   | (with_reducible exact ih4 _ _ _ _ _ _ _ _ _ _ _)
   | (with_reducible exact interlocutorlaw5_Shape_Few.mono _ _ _ _ _ _ _)
   | (with_reducible exact interlocutorlaw6_Locale.mono _ _ _ _ _ _ _ _)
   | (with_reducible exact interlocutorlaw6_Text.mono _ _ _)
   | (with_reducible exact interlocutorlaw6_known.mono _)
   | (with_reducible exact interlocutorref3_Fold.mono _ _)
   | (with_reducible exact LeO.refl _)
   | (with_reducible exact LeO.none _)
   | (with_reducible refine LeO.ite ?_ ?_)
   | (with_reducible refine LeO.bind ?_ (fun _ => ?_))
   | exact ih0 _ _ _ _ _ _ _ _ _ _
   | exact ih1 _ _ _ _ _ _ _ _
   | exact ih2 _ _ _ _
   | exact ih3 _ _ _ _ _
   | exact ih4 _ _ _ _ _ _ _ _ _ _ _
   | exact interlocutorlaw5_Shape_Few.mono _ _ _ _ _ _ _
   | exact interlocutorlaw6_Locale.mono _ _ _ _ _ _ _ _
   | exact interlocutorlaw6_Text.mono _ _ _
   | exact interlocutorlaw6_known.mono _
   | exact interlocutorref3_Fold.mono _ _
   | exact LeO.none _
   | refine LeO.ite ?_ ?_
   | refine LeO.bind ?_ (fun _ => ?_)
  ·intro y0 y1 y2 y3 y4 y5 y6 y7 y8 y9 y10
   unfold interlocutorlaw6_LexMore.l0
   repeat' first
   | (with_reducible exact ih0 _ _ _ _ _ _ _ _ _ _)
   | (with_reducible exact ih1 _ _ _ _ _ _ _ _)
   | (with_reducible exact ih2 _ _ _ _)
   | (with_reducible exact ih3 _ _ _ _ _)
   | (with_reducible exact ih4 _ _ _ _ _ _ _ _ _ _ _)
   | (with_reducible exact interlocutorlaw5_Shape_Few.mono _ _ _ _ _ _ _)
   | (with_reducible exact interlocutorlaw6_Locale.mono _ _ _ _ _ _ _ _)
   | (with_reducible exact interlocutorlaw6_Text.mono _ _ _)
   | (with_reducible exact interlocutorlaw6_known.mono _)
   | (with_reducible exact interlocutorref3_Fold.mono _ _)
   | (with_reducible exact LeO.refl _)
   | (with_reducible exact LeO.none _)
   | (with_reducible refine LeO.ite ?_ ?_)
   | (with_reducible refine LeO.bind ?_ (fun _ => ?_))
   | exact ih0 _ _ _ _ _ _ _ _ _ _
   | exact ih1 _ _ _ _ _ _ _ _
   | exact ih2 _ _ _ _
   | exact ih3 _ _ _ _ _
   | exact ih4 _ _ _ _ _ _ _ _ _ _ _
   | exact interlocutorlaw5_Shape_Few.mono _ _ _ _ _ _ _
   | exact interlocutorlaw6_Locale.mono _ _ _ _ _ _ _ _
   | exact interlocutorlaw6_Text.mono _ _ _
   | exact interlocutorlaw6_known.mono _
   | exact interlocutorref3_Fold.mono _ _
   | exact LeO.none _
   | refine LeO.ite ?_ ?_
   | refine LeO.bind ?_ (fun _ => ?_)
def interlocutorlaw6_LexMore.T20 : Bool × List (List Nat × List Nat) := (true, [([], []), ([], []), ([0, 1], [0, 1]), ([], []), ([], []), ([3, 4, 2], [3, 4]), ([2, 5, 0, 1, 2], [2]), ([5, 6, 0, 1, 2, 3, 4, 5, 6], [5])])
def interlocutorlaw6_LexMore.B20 : List Nat := [0, 0, 3, 0, 0, 31, 63, 127]
theorem interlocutorlaw6_LexMore.tab20 : rtab .any (opsOf Try.f9 20) = interlocutorlaw6_LexMore.T20 := by kernel_rfl
theorem interlocutorlaw6_LexMore.bits20 : waitsOk interlocutorlaw6_LexMore.T20.2 interlocutorlaw6_LexMore.B20 = true := by kernel_rfl
def interlocutorlaw6_LexMore.T25 : Bool × List (List Nat × List Nat) := (true, [([], []), ([], []), ([1], [1]), ([0, 2], [0, 2]), ([3], [3]), ([4], [4]), ([4], [4]), ([5, 6, 4], [4, 5, 6]), ([7, 4], [4, 7]), ([4], [4]), ([4], [4]), ([9, 10, 4], [4, 9, 10]), ([11, 4], [4, 11]), ([8, 12, 4], [4, 8, 12]), ([4, 13], [4, 13])])
def interlocutorlaw6_LexMore.B25 : List Nat := [0, 0, 2, 7, 15, 31, 31, 127, 255, 31, 31, 1567, 3615, 8191, 16383]
theorem interlocutorlaw6_LexMore.tab25 : rtab .any (opsOf Try.f9 25) = interlocutorlaw6_LexMore.T25 := by kernel_rfl
theorem interlocutorlaw6_LexMore.bits25 : waitsOk interlocutorlaw6_LexMore.T25.2 interlocutorlaw6_LexMore.B25 = true := by kernel_rfl
set_option maxHeartbeats 8000000 in
set_option maxRecDepth 100000 in
theorem interlocutorlaw6_LexMore.calls (k : Nat) (a0_0 : Int) (a0_1 : Int) (a0_2 : Int) (a0_3 : Int) (A0_4 : Option Addr) (c0_4 : Nat) (l0_4 : List (S85)) (a0_5 : Bool) (A1 : Option Addr) (c1 : Nat) (l1 : List Int) (a2 : Int) (a3 : Int) (r : Bool) (w : World) (hr0_4 : Kd.C k85 w A0_4 l0_4.length l0_4) (hc0_4 : l0_4.length ≤ c0_4) (hr1 : Kd.C (Kd.int .i64) w A1 l1.length l1) (hc1 : l1.length ≤ c1) (h : interlocutorlaw6_LexMore.f k a0_0 a0_1 a0_2 a0_3 l0_4 a0_5 l1 a2 a3 = some r) :
  Calls Try.prog 9 #[.agg #[.int .i64 a0_0, .int .i64 a0_1, .int .i64 a0_2, .int .i64 a0_3, .slice A0_4 l0_4.length c0_4, .bool a0_5], .slice A1 l1.length c1, .int .i64 a2, .int .i64 a3] w fun e w' => e = .returned (.bool r) ∧ Below w.heap.size w w' := by
 have hu24 := Try.underlying24
 have hu32 := Try.underlying32
 have hu53 := Try.underlying53
 have hu47 := Try.underlying47
 have HR0_4 := Aside0.mk hr0_4
 have HC0_4 := Aside0.mk hc0_4
 clear hr0_4 hc0_4
 have HR1 := Aside0.mk hr1
 have HC1 := Aside0.mk hc1
 clear hr1 hc1
 have HB := Aside0.mk (Below.refl w.heap.size w)
 have H : ((interlocutorlaw6_known.f k).bind fun t282 => (if t282 = true then ((interlocutorlaw5_Shape_Few.f k a0_0 a0_1 a0_2 a0_3 l0_4 a0_5).bind fun t283 => (if t283 = true then ((interlocutorlaw6_Locale.f k a0_0 a0_1 a0_2 a0_3 l0_4 a0_5 1).bind fun bt284 => ((interlocutorlaw6_Text.f k l1 8).bind fun t297 => ((interlocutorref3_Fold.f k t297).bind fun bt298 => (if (bt298.1.length : Int) = 0 then (some true) else ((interlocutorlaw6_within.f a2 (bt298.1.length : Int)).bind fun t304 => ((interlocutorlaw6_within.f a3 (mn 5 (wrap64 ((bt298.1.length : Int) - t304)))).bind fun t305 => (if 0 ≤ t304 then (if t304 < (bt298.1.length : Int) then (if (rd bt298.1 t304) = 32 then (interlocutorlaw6_LexMore.j0 k bt298.1 t304 (wrap64 (1 + t305)) true bt284.1 bt284.2.1 bt284.2.2.1 bt284.2.2.2.1 bt284.2.2.2.2.1 bt284.2.2.2.2.2) else (if 0 ≤ (wrap64 ((wrap64 (t304 + (wrap64 (1 + t305)))) - 1)) then (if (wrap64 ((wrap64 (t304 + (wrap64 (1 + t305)))) - 1)) < (bt298.1.length : Int) then (interlocutorlaw6_LexMore.j0 k bt298.1 t304 (wrap64 (1 + t305)) ((rd bt298.1 (wrap64 ((wrap64 (t304 + (wrap64 (1 + t305)))) - 1))) == 32) bt284.1 bt284.2.1 bt284.2.2.1 bt284.2.2.2.1 bt284.2.2.2.2.1 bt284.2.2.2.2.2) else (none)) else (none))) else (none)) else (none)))))))) else (some true))) else (some false))) = some r := h
 clear h
 replace H := Option.bind_eq_some_iff.mp H
 obtain ⟨t282, A50, H⟩ := H
 replace H : (if t282 = true then ((interlocutorlaw5_Shape_Few.f k a0_0 a0_1 a0_2 a0_3 l0_4 a0_5).bind fun t283 => (if t283 = true then ((interlocutorlaw6_Locale.f k a0_0 a0_1 a0_2 a0_3 l0_4 a0_5 1).bind fun bt284 => ((interlocutorlaw6_Text.f k l1 8).bind fun t297 => ((interlocutorref3_Fold.f k t297).bind fun bt298 => (if (bt298.1.length : Int) = 0 then (some true) else ((interlocutorlaw6_within.f a2 (bt298.1.length : Int)).bind fun t304 => ((interlocutorlaw6_within.f a3 (mn 5 (wrap64 ((bt298.1.length : Int) - t304)))).bind fun t305 => (if 0 ≤ t304 then (if t304 < (bt298.1.length : Int) then (if (rd bt298.1 t304) = 32 then (interlocutorlaw6_LexMore.j0 k bt298.1 t304 (wrap64 (1 + t305)) true bt284.1 bt284.2.1 bt284.2.2.1 bt284.2.2.2.1 bt284.2.2.2.2.1 bt284.2.2.2.2.2) else (if 0 ≤ (wrap64 ((wrap64 (t304 + (wrap64 (1 + t305)))) - 1)) then (if (wrap64 ((wrap64 (t304 + (wrap64 (1 + t305)))) - 1)) < (bt298.1.length : Int) then (interlocutorlaw6_LexMore.j0 k bt298.1 t304 (wrap64 (1 + t305)) ((rd bt298.1 (wrap64 ((wrap64 (t304 + (wrap64 (1 + t305)))) - 1))) == 32) bt284.1 bt284.2.1 bt284.2.2.1 bt284.2.2.2.1 bt284.2.2.2.2.1 bt284.2.2.2.2.2) else (none)) else (none))) else (none)) else (none)))))))) else (some true))) else (some false)) = some r := H
 have A5 := Aside0.mk A50
 clear A50
 by_cases c6 : t282 = true
 ·subst c6
  have H1 : ((interlocutorlaw5_Shape_Few.f k a0_0 a0_1 a0_2 a0_3 l0_4 a0_5).bind fun t283 => (if t283 = true then ((interlocutorlaw6_Locale.f k a0_0 a0_1 a0_2 a0_3 l0_4 a0_5 1).bind fun bt284 => ((interlocutorlaw6_Text.f k l1 8).bind fun t297 => ((interlocutorref3_Fold.f k t297).bind fun bt298 => (if (bt298.1.length : Int) = 0 then (some true) else ((interlocutorlaw6_within.f a2 (bt298.1.length : Int)).bind fun t304 => ((interlocutorlaw6_within.f a3 (mn 5 (wrap64 ((bt298.1.length : Int) - t304)))).bind fun t305 => (if 0 ≤ t304 then (if t304 < (bt298.1.length : Int) then (if (rd bt298.1 t304) = 32 then (interlocutorlaw6_LexMore.j0 k bt298.1 t304 (wrap64 (1 + t305)) true bt284.1 bt284.2.1 bt284.2.2.1 bt284.2.2.2.1 bt284.2.2.2.2.1 bt284.2.2.2.2.2) else (if 0 ≤ (wrap64 ((wrap64 (t304 + (wrap64 (1 + t305)))) - 1)) then (if (wrap64 ((wrap64 (t304 + (wrap64 (1 + t305)))) - 1)) < (bt298.1.length : Int) then (interlocutorlaw6_LexMore.j0 k bt298.1 t304 (wrap64 (1 + t305)) ((rd bt298.1 (wrap64 ((wrap64 (t304 + (wrap64 (1 + t305)))) - 1))) == 32) bt284.1 bt284.2.1 bt284.2.2.1 bt284.2.2.2.1 bt284.2.2.2.2.1 bt284.2.2.2.2.2) else (none)) else (none))) else (none)) else (none)))))))) else (some true))) = some r := by rw [if_pos rfl] at H; exact H
  clear H
  have H := H1
  clear H1
  replace H := Option.bind_eq_some_iff.mp H
  obtain ⟨t283, A70, H⟩ := H
  replace H : (if t283 = true then ((interlocutorlaw6_Locale.f k a0_0 a0_1 a0_2 a0_3 l0_4 a0_5 1).bind fun bt284 => ((interlocutorlaw6_Text.f k l1 8).bind fun t297 => ((interlocutorref3_Fold.f k t297).bind fun bt298 => (if (bt298.1.length : Int) = 0 then (some true) else ((interlocutorlaw6_within.f a2 (bt298.1.length : Int)).bind fun t304 => ((interlocutorlaw6_within.f a3 (mn 5 (wrap64 ((bt298.1.length : Int) - t304)))).bind fun t305 => (if 0 ≤ t304 then (if t304 < (bt298.1.length : Int) then (if (rd bt298.1 t304) = 32 then (interlocutorlaw6_LexMore.j0 k bt298.1 t304 (wrap64 (1 + t305)) true bt284.1 bt284.2.1 bt284.2.2.1 bt284.2.2.2.1 bt284.2.2.2.2.1 bt284.2.2.2.2.2) else (if 0 ≤ (wrap64 ((wrap64 (t304 + (wrap64 (1 + t305)))) - 1)) then (if (wrap64 ((wrap64 (t304 + (wrap64 (1 + t305)))) - 1)) < (bt298.1.length : Int) then (interlocutorlaw6_LexMore.j0 k bt298.1 t304 (wrap64 (1 + t305)) ((rd bt298.1 (wrap64 ((wrap64 (t304 + (wrap64 (1 + t305)))) - 1))) == 32) bt284.1 bt284.2.1 bt284.2.2.1 bt284.2.2.2.1 bt284.2.2.2.2.1 bt284.2.2.2.2.2) else (none)) else (none))) else (none)) else (none)))))))) else (some true)) = some r := H
  have A7 := Aside0.mk A70
  clear A70
  by_cases c8 : t283 = true
  ·subst c8
   have H1 : ((interlocutorlaw6_Locale.f k a0_0 a0_1 a0_2 a0_3 l0_4 a0_5 1).bind fun bt284 => ((interlocutorlaw6_Text.f k l1 8).bind fun t297 => ((interlocutorref3_Fold.f k t297).bind fun bt298 => (if (bt298.1.length : Int) = 0 then (some true) else ((interlocutorlaw6_within.f a2 (bt298.1.length : Int)).bind fun t304 => ((interlocutorlaw6_within.f a3 (mn 5 (wrap64 ((bt298.1.length : Int) - t304)))).bind fun t305 => (if 0 ≤ t304 then (if t304 < (bt298.1.length : Int) then (if (rd bt298.1 t304) = 32 then (interlocutorlaw6_LexMore.j0 k bt298.1 t304 (wrap64 (1 + t305)) true bt284.1 bt284.2.1 bt284.2.2.1 bt284.2.2.2.1 bt284.2.2.2.2.1 bt284.2.2.2.2.2) else (if 0 ≤ (wrap64 ((wrap64 (t304 + (wrap64 (1 + t305)))) - 1)) then (if (wrap64 ((wrap64 (t304 + (wrap64 (1 + t305)))) - 1)) < (bt298.1.length : Int) then (interlocutorlaw6_LexMore.j0 k bt298.1 t304 (wrap64 (1 + t305)) ((rd bt298.1 (wrap64 ((wrap64 (t304 + (wrap64 (1 + t305)))) - 1))) == 32) bt284.1 bt284.2.1 bt284.2.2.1 bt284.2.2.2.1 bt284.2.2.2.2.1 bt284.2.2.2.2.2) else (none)) else (none))) else (none)) else (none)))))))) = some r := by rw [if_pos rfl] at H; exact H
   clear H
   have H := H1
   clear H1
   replace H := Option.bind_eq_some_iff.mp H
   obtain ⟨⟨t284, t285, t286, t287, t290, t293⟩, A90, H⟩ := H
   replace H : ((interlocutorlaw6_Text.f k l1 8).bind fun t297 => ((interlocutorref3_Fold.f k t297).bind fun bt298 => (if (bt298.1.length : Int) = 0 then (some true) else ((interlocutorlaw6_within.f a2 (bt298.1.length : Int)).bind fun t304 => ((interlocutorlaw6_within.f a3 (mn 5 (wrap64 ((bt298.1.length : Int) - t304)))).bind fun t305 => (if 0 ≤ t304 then (if t304 < (bt298.1.length : Int) then (if (rd bt298.1 t304) = 32 then (interlocutorlaw6_LexMore.j0 k bt298.1 t304 (wrap64 (1 + t305)) true t284 t285 t286 t287 t290 t293) else (if 0 ≤ (wrap64 ((wrap64 (t304 + (wrap64 (1 + t305)))) - 1)) then (if (wrap64 ((wrap64 (t304 + (wrap64 (1 + t305)))) - 1)) < (bt298.1.length : Int) then (interlocutorlaw6_LexMore.j0 k bt298.1 t304 (wrap64 (1 + t305)) ((rd bt298.1 (wrap64 ((wrap64 (t304 + (wrap64 (1 + t305)))) - 1))) == 32) t284 t285 t286 t287 t290 t293) else (none)) else (none))) else (none)) else (none))))))) = some r := H
   have A9 := Aside0.mk A90
   clear A90
   replace H := Option.bind_eq_some_iff.mp H
   obtain ⟨t297, A100, H⟩ := H
   replace H : ((interlocutorref3_Fold.f k t297).bind fun bt298 => (if (bt298.1.length : Int) = 0 then (some true) else ((interlocutorlaw6_within.f a2 (bt298.1.length : Int)).bind fun t304 => ((interlocutorlaw6_within.f a3 (mn 5 (wrap64 ((bt298.1.length : Int) - t304)))).bind fun t305 => (if 0 ≤ t304 then (if t304 < (bt298.1.length : Int) then (if (rd bt298.1 t304) = 32 then (interlocutorlaw6_LexMore.j0 k bt298.1 t304 (wrap64 (1 + t305)) true t284 t285 t286 t287 t290 t293) else (if 0 ≤ (wrap64 ((wrap64 (t304 + (wrap64 (1 + t305)))) - 1)) then (if (wrap64 ((wrap64 (t304 + (wrap64 (1 + t305)))) - 1)) < (bt298.1.length : Int) then (interlocutorlaw6_LexMore.j0 k bt298.1 t304 (wrap64 (1 + t305)) ((rd bt298.1 (wrap64 ((wrap64 (t304 + (wrap64 (1 + t305)))) - 1))) == 32) t284 t285 t286 t287 t290 t293) else (none)) else (none))) else (none)) else (none)))))) = some r := H
   have A10 := Aside0.mk A100
   clear A100
   replace H := Option.bind_eq_some_iff.mp H
   obtain ⟨⟨t298, t299⟩, A110, H⟩ := H
   replace H : (if (t298.length : Int) = 0 then (some true) else ((interlocutorlaw6_within.f a2 (t298.length : Int)).bind fun t304 => ((interlocutorlaw6_within.f a3 (mn 5 (wrap64 ((t298.length : Int) - t304)))).bind fun t305 => (if 0 ≤ t304 then (if t304 < (t298.length : Int) then (if (rd t298 t304) = 32 then (interlocutorlaw6_LexMore.j0 k t298 t304 (wrap64 (1 + t305)) true t284 t285 t286 t287 t290 t293) else (if 0 ≤ (wrap64 ((wrap64 (t304 + (wrap64 (1 + t305)))) - 1)) then (if (wrap64 ((wrap64 (t304 + (wrap64 (1 + t305)))) - 1)) < (t298.length : Int) then (interlocutorlaw6_LexMore.j0 k t298 t304 (wrap64 (1 + t305)) ((rd t298 (wrap64 ((wrap64 (t304 + (wrap64 (1 + t305)))) - 1))) == 32) t284 t285 t286 t287 t290 t293) else (none)) else (none))) else (none)) else (none))))) = some r := H
   have A11 := Aside0.mk A110
   clear A110
   by_cases c12 : (t298.length : Int) = 0
   ·rw [if_pos c12] at H
    have c12b0 : ((t298.length : Int) == 0) = true := beq_iff_eq.mpr c12
    have c12b1 : ((t298.length : Int) != 0) = false := bne_eq_false_iff_eq.mpr c12
    clear c12
    obtain rfl := Option.some.inj H
    go_enter Try.func9, Try.ntmps9
    go_wp2_with (first | ((with_reducible refine gate_dst (N := 4) rfl ?_); (try (refine gate_guard (by rfl) ?_; dsimp only)); refine box_event ?hg (N := 4) ?hd (cs := #[.int .i64 a0_0, .int .i64 a0_1, .int .i64 a0_2, .int .i64 a0_3, .slice A0_4 l0_4.length c0_4, .bool a0_5]) (t := 24) ?hr ?_; (case hd => rfl); (case hg => rfl); (case hr => first | (go_simp; done) | (go_simp; rfl)); intro gb281 hg w13 hbox hb; have n0_ := Aside0.mk (below_step (by exact wU HB.out) hb); have n1_ := Aside0.mk (hbox); have n2_ := Aside0.mk ((by rw [hg]; exact (below_size (by exact wU HB.out)) : w.heap.size ≤ gb281)); have n3_ := Aside0.mk ((by rw [hg]; exact (below_size (by exact wU HB.out)) : w.heap.size ≤ gb281)); clear HB; have HB := n0_; have BK281 := n1_; have GW281 := n2_; have GE281 := n3_; clear n0_ n1_ n2_ n3_; clear hb hbox hg) | ((with_reducible refine gate_callee (f := 14) rfl ?_); refine goesL_ (some 21) rfl rfl Try.func14 (by kernel_rfl) rfl #[] rfl (by (try simp only [List.map_toArray, List.map_cons, List.map_nil]); first | done | rfl | (simp only [List.length_drop, List.length_take]; rfl)) ?_; (with_reducible refine (interlocutorlaw6_known.calls k  true _ A5.out).mono ?_); rintro e w14 ⟨rfl, hb⟩; refine ⟨_, rfl, ?_⟩; have n0_ := Aside0.mk (blk_below (g := gb281) (o := .cells #[.int .i64 a0_0, .int .i64 a0_1, .int .i64 a0_2, .int .i64 a0_3, .slice A0_4 l0_4.length c0_4, .bool a0_5] 24 (0, 0)) (by (with_reducible repeat (first | refine blk_drewN ?_ _ | refine blk_drew ?_ | refine blk_alloc ?_ _)); exact BK281.out) hb); have n1_ := Aside0.mk (below_step (by exact wS HB.out GE281.out) hb); clear BK281; clear HB; have BK281 := n0_; have HB := n1_; clear n0_ n1_; (try clear hb); (try clear hb2); (try clear hk); (try clear hi); have hcz15_0 : w14.cell? ⟨gb281, 0, none⟩ = some (.int .i64 a0_0) := (blk_cell BK281.out 0).trans rfl; have hcz15_1 : w14.cell? ⟨gb281, 1, none⟩ = some (.int .i64 a0_1) := (blk_cell BK281.out 1).trans rfl; have hcz15_2 : w14.cell? ⟨gb281, 2, none⟩ = some (.int .i64 a0_2) := (blk_cell BK281.out 2).trans rfl; have hcz15_3 : w14.cell? ⟨gb281, 3, none⟩ = some (.int .i64 a0_3) := (blk_cell BK281.out 3).trans rfl; have hcz15_4 : w14.cell? ⟨gb281, 4, none⟩ = some (.slice A0_4 l0_4.length c0_4) := (blk_cell BK281.out 4).trans rfl; have hcz15_5 : w14.cell? ⟨gb281, 5, none⟩ = some (.bool a0_5) := (blk_cell BK281.out 5).trans rfl; have hfz15_0 := blk_frozen BK281.out 0; have hfz15_1 := blk_frozen BK281.out 1; have hfz15_2 := blk_frozen BK281.out 2; have hfz15_3 := blk_frozen BK281.out 3; have hfz15_4 := blk_frozen BK281.out 4; have hfz15_5 := blk_frozen BK281.out 5) | ((with_reducible refine gate_callee (f := 15) rfl ?_); refine goesL_ (some 24) rfl rfl Try.func15 (by kernel_rfl) rfl #[.agg #[.int .i64 a0_0, .int .i64 a0_1, .int .i64 a0_2, .int .i64 a0_3, .slice A0_4 l0_4.length c0_4, .bool a0_5]] rfl (by (try simp only [List.map_toArray, List.map_cons, List.map_nil]); first | done | rfl | (simp only [List.length_drop, List.length_take]; rfl)) ?_; (with_reducible refine (interlocutorlaw5_Shape_Few.calls k a0_0 a0_1 a0_2 a0_3 _ _ l0_4 a0_5 true _ ?side1 ?side2 A7.out).mono ?_); (case side1 => repeat (first | exact (Kd.C_below HR0_4.out HB.out) | (with_reducible refine Kd.C_alloc ?_ _) | (with_reducible refine Kd.C_drewN ?_ _) | (with_reducible refine Kd.C_drew ?_))); (case side2 => exact HC0_4.out); rintro e w16 ⟨rfl, hb⟩; refine ⟨_, rfl, ?_⟩; have n0_ := Aside0.mk (blk_below (g := gb281) (o := .cells #[.int .i64 a0_0, .int .i64 a0_1, .int .i64 a0_2, .int .i64 a0_3, .slice A0_4 l0_4.length c0_4, .bool a0_5] 24 (0, 0)) (by (with_reducible repeat (first | refine blk_drewN ?_ _ | refine blk_drew ?_ | refine blk_alloc ?_ _)); exact BK281.out) hb); have n1_ := Aside0.mk (below_step (by exact wS HB.out GE281.out) hb); clear BK281; clear HB; have BK281 := n0_; have HB := n1_; clear n0_ n1_; (try clear hb); (try clear hb2); (try clear hk); (try clear hi); have hcz17_0 : w16.cell? ⟨gb281, 0, none⟩ = some (.int .i64 a0_0) := (blk_cell BK281.out 0).trans rfl; have hcz17_1 : w16.cell? ⟨gb281, 1, none⟩ = some (.int .i64 a0_1) := (blk_cell BK281.out 1).trans rfl; have hcz17_2 : w16.cell? ⟨gb281, 2, none⟩ = some (.int .i64 a0_2) := (blk_cell BK281.out 2).trans rfl; have hcz17_3 : w16.cell? ⟨gb281, 3, none⟩ = some (.int .i64 a0_3) := (blk_cell BK281.out 3).trans rfl; have hcz17_4 : w16.cell? ⟨gb281, 4, none⟩ = some (.slice A0_4 l0_4.length c0_4) := (blk_cell BK281.out 4).trans rfl; have hcz17_5 : w16.cell? ⟨gb281, 5, none⟩ = some (.bool a0_5) := (blk_cell BK281.out 5).trans rfl; have hfz17_0 := blk_frozen BK281.out 0; have hfz17_1 := blk_frozen BK281.out 1; have hfz17_2 := blk_frozen BK281.out 2; have hfz17_3 := blk_frozen BK281.out 3; have hfz17_4 := blk_frozen BK281.out 4; have hfz17_5 := blk_frozen BK281.out 5) | ((with_reducible refine gate_callee (f := 16) rfl ?_); refine goesL_ (some 27) rfl rfl Try.func16 (by kernel_rfl) rfl #[.agg #[.int .i64 a0_0, .int .i64 a0_1, .int .i64 a0_2, .int .i64 a0_3, .slice A0_4 l0_4.length c0_4, .bool a0_5], .int .i64 1] rfl (by (try simp only [List.map_toArray, List.map_cons, List.map_nil]); first | done | rfl | (simp only [List.length_drop, List.length_take]; rfl)) ?_; (with_reducible refine (interlocutorlaw6_Locale.calls k a0_0 a0_1 a0_2 a0_3 _ _ l0_4 a0_5 1 t284 t285 t286 t287 t290 t293 _ ?side1 ?side2 A9.out).mono ?_); (case side1 => repeat (first | exact (Kd.C_below HR0_4.out HB.out) | (with_reducible refine Kd.C_alloc ?_ _) | (with_reducible refine Kd.C_drewN ?_ _) | (with_reducible refine Kd.C_drew ?_))); (case side2 => exact HC0_4.out); rintro e w18 ⟨v288, v291, v294, rfl, ho0, ho1, ho2, hb⟩; refine ⟨_, rfl, ?_⟩; have n0_ := Aside0.mk (Kd.V_lower (Kd.V_mono (ok' := fun k_ => k_ ≠ gb281) ho0 (fun k_ hk_ => (Kd.freshB (g := gb281) (o := .cells #[.int .i64 a0_0, .int .i64 a0_1, .int .i64 a0_2, .int .i64 a0_3, .slice A0_4 l0_4.length c0_4, .bool a0_5] 24 (0, 0)) (by (with_reducible repeat (first | refine blk_drewN ?_ _ | refine blk_drew ?_ | refine blk_alloc ?_ _)); exact BK281.out) k_ hk_))) (below_size (by exact wS HB.out GE281.out))); have n1_ := Aside0.mk (Kd.V_lower (Kd.V_mono (ok' := fun k_ => k_ ≠ gb281) ho1 (fun k_ hk_ => (Kd.freshB (g := gb281) (o := .cells #[.int .i64 a0_0, .int .i64 a0_1, .int .i64 a0_2, .int .i64 a0_3, .slice A0_4 l0_4.length c0_4, .bool a0_5] 24 (0, 0)) (by (with_reducible repeat (first | refine blk_drewN ?_ _ | refine blk_drew ?_ | refine blk_alloc ?_ _)); exact BK281.out) k_ hk_))) (below_size (by exact wS HB.out GE281.out))); have n2_ := Aside0.mk (Kd.V_lower (Kd.V_mono (ok' := fun k_ => k_ ≠ gb281) ho2 (fun k_ hk_ => (Kd.freshB (g := gb281) (o := .cells #[.int .i64 a0_0, .int .i64 a0_1, .int .i64 a0_2, .int .i64 a0_3, .slice A0_4 l0_4.length c0_4, .bool a0_5] 24 (0, 0)) (by (with_reducible repeat (first | refine blk_drewN ?_ _ | refine blk_drew ?_ | refine blk_alloc ?_ _)); exact BK281.out) k_ hk_))) (below_size (by exact wS HB.out GE281.out))); have n3_ := Aside0.mk (blk_below (g := gb281) (o := .cells #[.int .i64 a0_0, .int .i64 a0_1, .int .i64 a0_2, .int .i64 a0_3, .slice A0_4 l0_4.length c0_4, .bool a0_5] 24 (0, 0)) (by (with_reducible repeat (first | refine blk_drewN ?_ _ | refine blk_drew ?_ | refine blk_alloc ?_ _)); exact BK281.out) hb); have n4_ := Aside0.mk (below_step (by exact wS HB.out GE281.out) hb); clear BK281; clear HB; have HO289 := n0_; have HO292 := n1_; have HO295 := n2_; have BK281 := n3_; have HB := n4_; clear n0_ n1_ n2_ n3_ n4_; (try clear hb); (try clear hb2); (try clear hk); (try clear hi); (try clear ho0); (try clear ho1); (try clear ho2)) | ((with_reducible refine gate_dst (N := 9) rfl ?_); (try (refine gate_guard (by rfl) ?_; dsimp only)); refine box_event ?hg (N := 9) ?hd (cs := #[.string (⟨#[]⟩ : ByteArray), .int .i64 0, .int .i64 0, .slice none 0 0, .slice none 0 0, .slice none 0 0]) (t := 32) ?hr ?_; (case hd => rfl); (case hg => rfl); (case hr => first | (go_simp; done) | (go_simp; rfl)); intro gb296 hg w19 hbox hb; have n0_ := Aside0.mk (Kd.V_below (Kd.V_elderB (by exact vU HO289.out) gb296 (Nat.le_of_eq hg.symm)) hb); have n1_ := Aside0.mk (Kd.V_below (Kd.V_elderB (by exact vU HO292.out) gb296 (Nat.le_of_eq hg.symm)) hb); have n2_ := Aside0.mk (Kd.V_below (Kd.V_elderB (by exact vU HO295.out) gb296 (Nat.le_of_eq hg.symm)) hb); have n3_ := Aside0.mk (blk_below (g := gb281) (o := .cells #[.int .i64 a0_0, .int .i64 a0_1, .int .i64 a0_2, .int .i64 a0_3, .slice A0_4 l0_4.length c0_4, .bool a0_5] 24 (0, 0)) (by (with_reducible repeat (first | refine blk_drewN ?_ _ | refine blk_drew ?_ | refine blk_alloc ?_ _)); exact BK281.out) hb); have n4_ := Aside0.mk (below_step (by exact wS HB.out GE281.out) hb); have n5_ := Aside0.mk (hbox); have n6_ := Aside0.mk ((by rw [hg]; exact (below_size (by exact wS HB.out GE281.out)) : w.heap.size ≤ gb296)); have n7_ := Aside0.mk ((by rw [hg]; exact (below_size (by exact wS HB.out GE281.out)) : w.heap.size ≤ gb296)); have n8_ := Aside0.mk ((by rw [hg]; exact Nat.ne_of_lt (blk_lt (g := gb281) (o := .cells #[.int .i64 a0_0, .int .i64 a0_1, .int .i64 a0_2, .int .i64 a0_3, .slice A0_4 l0_4.length c0_4, .bool a0_5] 24 (0, 0)) (by (with_reducible repeat (first | refine blk_drewN ?_ _ | refine blk_drew ?_ | refine blk_alloc ?_ _)); exact BK281.out)) : gb281 ≠ gb296)); have n9_ := Aside0.mk ((by rw [hg]; exact Nat.ne_of_gt (blk_lt (g := gb281) (o := .cells #[.int .i64 a0_0, .int .i64 a0_1, .int .i64 a0_2, .int .i64 a0_3, .slice A0_4 l0_4.length c0_4, .bool a0_5] 24 (0, 0)) (by (with_reducible repeat (first | refine blk_drewN ?_ _ | refine blk_drew ?_ | refine blk_alloc ?_ _)); exact BK281.out)) : gb296 ≠ gb281)); clear HO289; clear HO292; clear HO295; clear BK281; clear HB; have HO289 := n0_; have HO292 := n1_; have HO295 := n2_; have BK281 := n3_; have HB := n4_; have BK296 := n5_; have GW296 := n6_; have GE296 := n7_; have NB281_296 := n8_; have NB296_281 := n9_; clear n0_ n1_ n2_ n3_ n4_ n5_ n6_ n7_ n8_ n9_; clear hb hbox hg; have hnb20 := NB296_281.out; have hnc20 := NB281_296.out; have hcz21_0 : w19.cell? ⟨gb296, 0, none⟩ = some (.string (⟨#[]⟩ : ByteArray)) := (blk_cell BK296.out 0).trans rfl; have hcz21_1 : w19.cell? ⟨gb296, 1, none⟩ = some (.int .i64 0) := (blk_cell BK296.out 1).trans rfl; have hcz21_2 : w19.cell? ⟨gb296, 2, none⟩ = some (.int .i64 0) := (blk_cell BK296.out 2).trans rfl; have hcz21_3 : w19.cell? ⟨gb296, 3, none⟩ = some (.slice none 0 0) := (blk_cell BK296.out 3).trans rfl; have hcz21_4 : w19.cell? ⟨gb296, 4, none⟩ = some (.slice none 0 0) := (blk_cell BK296.out 4).trans rfl; have hcz21_5 : w19.cell? ⟨gb296, 5, none⟩ = some (.slice none 0 0) := (blk_cell BK296.out 5).trans rfl; have hfz21_0 := blk_frozen BK296.out 0; have hfz21_1 := blk_frozen BK296.out 1; have hfz21_2 := blk_frozen BK296.out 2; have hfz21_3 := blk_frozen BK296.out 3; have hfz21_4 := blk_frozen BK296.out 4; have hfz21_5 := blk_frozen BK296.out 5; obtain ⟨Ao22, co22, eo22⟩ := Kd.V_slice HO289.out; subst eo22; obtain ⟨Ao23, co23, eo23⟩ := Kd.V_slice HO292.out; subst eo23; obtain ⟨Ao24, co24, eo24⟩ := Kd.V_slice HO295.out; subst eo24) | ((with_reducible refine gate_callee (f := 17) rfl ?_); refine goesL_ (some 30) rfl rfl Try.func17 (by kernel_rfl) rfl #[.slice A1 l1.length c1, .int .i64 8] rfl (by (try simp only [List.map_toArray, List.map_cons, List.map_nil]); first | done | rfl | (simp only [List.length_drop, List.length_take]; rfl)) ?_; (with_reducible refine (interlocutorlaw6_Text.calls k _ _ l1 8 t297 _ ?side1 ?side2 A10.out).mono ?_); (case side1 => exact Kd.C_below HR1.out (by exact wZ HB.out GE281.out GE296.out)); (case side2 => exact HC1.out); rintro e w25 ⟨rfl, hb⟩; refine ⟨_, rfl, ?_⟩; have n0_ := Aside0.mk (Kd.V_below (by exact vU ((Kd.V_mono (Kd.V_far (p := ⟨gb296, 5, none⟩) (Kd.V_far (p := ⟨gb296, 4, none⟩) (Kd.V_far (p := ⟨gb296, 3, none⟩) (Kd.V_far (p := ⟨gb296, 2, none⟩) (Kd.V_far (p := ⟨gb296, 1, none⟩) (Kd.V_far (p := ⟨gb296, 0, none⟩) (Kd.V_mono HO289.out (fun k_ hk => (⟨hk, hk.2⟩ : _ ∧ k_ ≠ gb296))) (fun _ hk => hk.2) (.string t284)) (fun _ hk => hk.2) (.int .i64 t285)) (fun _ hk => hk.2) (.int .i64 t286)) (fun _ hk => hk.2) (.slice Ao22 t287.length co22)) (fun _ hk => hk.2) (.slice Ao23 t290.length co23)) (fun _ hk => hk.2) (.slice Ao24 t293.length co24)) (fun _ h_ => h_.1)))) hb); have n1_ := Aside0.mk (Kd.V_below (by exact vU ((Kd.V_mono (Kd.V_far (p := ⟨gb296, 5, none⟩) (Kd.V_far (p := ⟨gb296, 4, none⟩) (Kd.V_far (p := ⟨gb296, 3, none⟩) (Kd.V_far (p := ⟨gb296, 2, none⟩) (Kd.V_far (p := ⟨gb296, 1, none⟩) (Kd.V_far (p := ⟨gb296, 0, none⟩) (Kd.V_mono HO292.out (fun k_ hk => (⟨hk, hk.2⟩ : _ ∧ k_ ≠ gb296))) (fun _ hk => hk.2) (.string t284)) (fun _ hk => hk.2) (.int .i64 t285)) (fun _ hk => hk.2) (.int .i64 t286)) (fun _ hk => hk.2) (.slice Ao22 t287.length co22)) (fun _ hk => hk.2) (.slice Ao23 t290.length co23)) (fun _ hk => hk.2) (.slice Ao24 t293.length co24)) (fun _ h_ => h_.1)))) hb); have n2_ := Aside0.mk (Kd.V_below (by exact vU ((Kd.V_mono (Kd.V_far (p := ⟨gb296, 5, none⟩) (Kd.V_far (p := ⟨gb296, 4, none⟩) (Kd.V_far (p := ⟨gb296, 3, none⟩) (Kd.V_far (p := ⟨gb296, 2, none⟩) (Kd.V_far (p := ⟨gb296, 1, none⟩) (Kd.V_far (p := ⟨gb296, 0, none⟩) (Kd.V_mono HO295.out (fun k_ hk => (⟨hk, hk.2⟩ : _ ∧ k_ ≠ gb296))) (fun _ hk => hk.2) (.string t284)) (fun _ hk => hk.2) (.int .i64 t285)) (fun _ hk => hk.2) (.int .i64 t286)) (fun _ hk => hk.2) (.slice Ao22 t287.length co22)) (fun _ hk => hk.2) (.slice Ao23 t290.length co23)) (fun _ hk => hk.2) (.slice Ao24 t293.length co24)) (fun _ h_ => h_.1)))) hb); have n3_ := Aside0.mk (blk_below (g := gb281) (o := .cells #[.int .i64 a0_0, .int .i64 a0_1, .int .i64 a0_2, .int .i64 a0_3, .slice A0_4 l0_4.length c0_4, .bool a0_5] 24 (0, 0)) (by (with_reducible repeat (first | refine blk_drewN ?_ _ | refine blk_drew ?_ | refine blk_alloc ?_ _)); refine blk_far ?_ NB281_296.out _; (with_reducible repeat (first | refine blk_drewN ?_ _ | refine blk_drew ?_ | refine blk_alloc ?_ _)); refine blk_far ?_ NB281_296.out _; (with_reducible repeat (first | refine blk_drewN ?_ _ | refine blk_drew ?_ | refine blk_alloc ?_ _)); refine blk_far ?_ NB281_296.out _; (with_reducible repeat (first | refine blk_drewN ?_ _ | refine blk_drew ?_ | refine blk_alloc ?_ _)); refine blk_far ?_ NB281_296.out _; (with_reducible repeat (first | refine blk_drewN ?_ _ | refine blk_drew ?_ | refine blk_alloc ?_ _)); refine blk_far ?_ NB281_296.out _; (with_reducible repeat (first | refine blk_drewN ?_ _ | refine blk_drew ?_ | refine blk_alloc ?_ _)); refine blk_far ?_ NB281_296.out _; (with_reducible repeat (first | refine blk_drewN ?_ _ | refine blk_drew ?_ | refine blk_alloc ?_ _)); exact BK281.out) hb); have n4_ := Aside0.mk (blk_below (g := gb296) (o := .cells #[.string t284, .int .i64 t285, .int .i64 t286, .slice Ao22 t287.length co22, .slice Ao23 t290.length co23, .slice Ao24 t293.length co24] 32 (0, 0)) (by (with_reducible repeat (first | refine blk_drewN ?_ _ | refine blk_drew ?_ | refine blk_alloc ?_ _)); refine blk_put (cs := #[.string t284, .int .i64 t285, .int .i64 t286, .slice Ao22 t287.length co22, .slice Ao23 t290.length co23, .slice none 0 0]) ?_ 5 _ rfl; (with_reducible repeat (first | refine blk_drewN ?_ _ | refine blk_drew ?_ | refine blk_alloc ?_ _)); refine blk_put (cs := #[.string t284, .int .i64 t285, .int .i64 t286, .slice Ao22 t287.length co22, .slice none 0 0, .slice none 0 0]) ?_ 4 _ rfl; (with_reducible repeat (first | refine blk_drewN ?_ _ | refine blk_drew ?_ | refine blk_alloc ?_ _)); refine blk_put (cs := #[.string t284, .int .i64 t285, .int .i64 t286, .slice none 0 0, .slice none 0 0, .slice none 0 0]) ?_ 3 _ rfl; (with_reducible repeat (first | refine blk_drewN ?_ _ | refine blk_drew ?_ | refine blk_alloc ?_ _)); refine blk_put (cs := #[.string t284, .int .i64 t285, .int .i64 0, .slice none 0 0, .slice none 0 0, .slice none 0 0]) ?_ 2 _ rfl; (with_reducible repeat (first | refine blk_drewN ?_ _ | refine blk_drew ?_ | refine blk_alloc ?_ _)); refine blk_put (cs := #[.string t284, .int .i64 0, .int .i64 0, .slice none 0 0, .slice none 0 0, .slice none 0 0]) ?_ 1 _ rfl; (with_reducible repeat (first | refine blk_drewN ?_ _ | refine blk_drew ?_ | refine blk_alloc ?_ _)); refine blk_put (cs := #[.string (⟨#[]⟩ : ByteArray), .int .i64 0, .int .i64 0, .slice none 0 0, .slice none 0 0, .slice none 0 0]) ?_ 0 _ rfl; (with_reducible repeat (first | refine blk_drewN ?_ _ | refine blk_drew ?_ | refine blk_alloc ?_ _)); exact BK296.out) hb); have n5_ := Aside0.mk (below_step (by exact wZ HB.out GE281.out GE296.out) hb); clear HO289; clear HO292; clear HO295; clear BK281; clear BK296; clear HB; have HO289 := n0_; have HO292 := n1_; have HO295 := n2_; have BK281 := n3_; have BK296 := n4_; have HB := n5_; clear n0_ n1_ n2_ n3_ n4_ n5_; (try clear hb); (try clear hb2); (try clear hk); (try clear hi)) | ((with_reducible refine gate_callee (f := 19) rfl ?_); refine goesL_ (some 31) rfl rfl Try.func19 (by kernel_rfl) rfl #[.string t297] rfl (by (try simp only [List.map_toArray, List.map_cons, List.map_nil]); first | done | rfl | (simp only [List.length_drop, List.length_take]; rfl)) ?_; (with_reducible refine (interlocutorref3_Fold.calls k t297 t298 t299 _ A11.out).mono ?_); rintro e w26 ⟨v300, v302, rfl, ho0, ho1, hb⟩; refine ⟨_, rfl, ?_⟩; have n0_ := Aside0.mk (Kd.V_mono (Kd.V_told (Kd.V_told (Kd.V_old (by exact vU HO289.out) hb) (Kd.R_base ho0)) (Kd.R_base ho1)) (fun _ h_ => h_.1)); have n1_ := Aside0.mk (Kd.V_mono (Kd.V_told (Kd.V_told (Kd.V_old (by exact vU HO292.out) hb) (Kd.R_base ho0)) (Kd.R_base ho1)) (fun _ h_ => h_.1)); have n2_ := Aside0.mk (Kd.V_mono (Kd.V_told (Kd.V_told (Kd.V_old (by exact vU HO295.out) hb) (Kd.R_base ho0)) (Kd.R_base ho1)) (fun _ h_ => h_.1)); have n3_ := Aside0.mk (Kd.R_lower ho0 (below_size (by exact wZ HB.out GE281.out GE296.out))); have n4_ := Aside0.mk (Kd.R_lower ho1 (below_size (by exact wZ HB.out GE281.out GE296.out))); have n5_ := Aside0.mk (blk_below (g := gb281) (o := .cells #[.int .i64 a0_0, .int .i64 a0_1, .int .i64 a0_2, .int .i64 a0_3, .slice A0_4 l0_4.length c0_4, .bool a0_5] 24 (0, 0)) (by (with_reducible repeat (first | refine blk_drewN ?_ _ | refine blk_drew ?_ | refine blk_alloc ?_ _)); exact BK281.out) hb); have n6_ := Aside0.mk (blk_below (g := gb296) (o := .cells #[.string t284, .int .i64 t285, .int .i64 t286, .slice Ao22 t287.length co22, .slice Ao23 t290.length co23, .slice Ao24 t293.length co24] 32 (0, 0)) (by (with_reducible repeat (first | refine blk_drewN ?_ _ | refine blk_drew ?_ | refine blk_alloc ?_ _)); exact BK296.out) hb); have n7_ := Aside0.mk (below_step (by exact wZ HB.out GE281.out GE296.out) hb); clear HO289; clear HO292; clear HO295; clear BK281; clear BK296; clear HB; have HO289 := n0_; have HO292 := n1_; have HO295 := n2_; have HO301 := n3_; have HO303 := n4_; have BK281 := n5_; have BK296 := n6_; have HB := n7_; clear n0_ n1_ n2_ n3_ n4_ n5_ n6_ n7_; (try clear hb); (try clear hb2); (try clear hk); (try clear hi); (try clear ho0); (try clear ho1); obtain ⟨Ao27, co27, eo27⟩ := Kd.R_slice HO301.out; subst eo27))
    go_ret
    exact ⟨by first | rfl | (simp [errW_none, errW_some] <;> rfl) | (simp [*, errW_none, errW_some] <;> rfl), by exact wZ HB.out GE281.out GE296.out⟩
   ·rw [if_neg c12] at H
    have c12b0 : ((t298.length : Int) == 0) = false := beq_eq_false_iff_ne.mpr c12
    have c12b1 : ((t298.length : Int) != 0) = true := bne_iff_ne.mpr c12
    have c12b2 : ¬ (t298 = []) := fun h_ => c12 (by rw [h_]; rfl)
    replace H := Option.bind_eq_some_iff.mp H
    obtain ⟨t304, A280, H⟩ := H
    replace H : ((interlocutorlaw6_within.f a3 (mn 5 (wrap64 ((t298.length : Int) - t304)))).bind fun t305 => (if 0 ≤ t304 then (if t304 < (t298.length : Int) then (if (rd t298 t304) = 32 then (interlocutorlaw6_LexMore.j0 k t298 t304 (wrap64 (1 + t305)) true t284 t285 t286 t287 t290 t293) else (if 0 ≤ (wrap64 ((wrap64 (t304 + (wrap64 (1 + t305)))) - 1)) then (if (wrap64 ((wrap64 (t304 + (wrap64 (1 + t305)))) - 1)) < (t298.length : Int) then (interlocutorlaw6_LexMore.j0 k t298 t304 (wrap64 (1 + t305)) ((rd t298 (wrap64 ((wrap64 (t304 + (wrap64 (1 + t305)))) - 1))) == 32) t284 t285 t286 t287 t290 t293) else (none)) else (none))) else (none)) else (none))) = some r := H
    have A28 := Aside0.mk A280
    clear A280
    obtain ⟨ji29, hji29⟩ : ∃ j_ : Int, (mn 5 (wrap64 ((t298.length : Int) - t304))) = j_ := ⟨_, rfl⟩
    replace H : ((interlocutorlaw6_within.f a3 (ji29)).bind fun t305 => (if 0 ≤ t304 then (if t304 < (t298.length : Int) then (if (rd t298 t304) = 32 then (interlocutorlaw6_LexMore.j0 k t298 t304 (wrap64 (1 + t305)) true t284 t285 t286 t287 t290 t293) else (if 0 ≤ (wrap64 ((wrap64 (t304 + (wrap64 (1 + t305)))) - 1)) then (if (wrap64 ((wrap64 (t304 + (wrap64 (1 + t305)))) - 1)) < (t298.length : Int) then (interlocutorlaw6_LexMore.j0 k t298 t304 (wrap64 (1 + t305)) ((rd t298 (wrap64 ((wrap64 (t304 + (wrap64 (1 + t305)))) - 1))) == 32) t284 t285 t286 t287 t290 t293) else (none)) else (none))) else (none)) else (none))) = some r := by first | (rw [hji29] at H; exact H) | (simp only [hji29] at H ⊢; exact H)
    (try rw [hji29] at A5)
    (try rw [hji29] at A7)
    (try rw [hji29] at A9)
    (try rw [hji29] at A10)
    (try rw [hji29] at A11)
    (try rw [hji29] at A28)
    (try (have hji29h : ji29 ≤ 5 := by (rw [← hji29]; unfold mn; (repeat' split) <;> omega)))
    (try (have hji29g : ji29 ≤ 64 := by omega))
    have hji29_ : (if (wrap64 ((t298.length : Int) - t304)) < 5 then (wrap64 ((t298.length : Int) - t304)) else 5) = ji29 := hji29
    replace H := Option.bind_eq_some_iff.mp H
    obtain ⟨t305, A300, H⟩ := H
    replace H : (if 0 ≤ t304 then (if t304 < (t298.length : Int) then (if (rd t298 t304) = 32 then (interlocutorlaw6_LexMore.j0 k t298 t304 (wrap64 (1 + t305)) true t284 t285 t286 t287 t290 t293) else (if 0 ≤ (wrap64 ((wrap64 (t304 + (wrap64 (1 + t305)))) - 1)) then (if (wrap64 ((wrap64 (t304 + (wrap64 (1 + t305)))) - 1)) < (t298.length : Int) then (interlocutorlaw6_LexMore.j0 k t298 t304 (wrap64 (1 + t305)) ((rd t298 (wrap64 ((wrap64 (t304 + (wrap64 (1 + t305)))) - 1))) == 32) t284 t285 t286 t287 t290 t293) else (none)) else (none))) else (none)) else (none)) = some r := H
    have A30 := Aside0.mk A300
    clear A300
    have HC31 := Aside0.mk H
    clear H
    go_enter Try.func9, Try.ntmps9
    go_upto_region 11 with (first | ((with_reducible refine gate_dst (N := 4) rfl ?_); (try (refine gate_guard (by rfl) ?_; dsimp only)); refine box_event ?hg (N := 4) ?hd (cs := #[.int .i64 a0_0, .int .i64 a0_1, .int .i64 a0_2, .int .i64 a0_3, .slice A0_4 l0_4.length c0_4, .bool a0_5]) (t := 24) ?hr ?_; (case hd => rfl); (case hg => rfl); (case hr => first | (go_simp; done) | (go_simp; rfl)); intro gb281 hg w32 hbox hb; have n0_ := Aside0.mk (below_step (by exact wU HB.out) hb); have n1_ := Aside0.mk (hbox); have n2_ := Aside0.mk ((by rw [hg]; exact (below_size (by exact wU HB.out)) : w.heap.size ≤ gb281)); have n3_ := Aside0.mk ((by rw [hg]; exact (below_size (by exact wU HB.out)) : w.heap.size ≤ gb281)); clear HB; have HB := n0_; have BK281 := n1_; have GW281 := n2_; have GE281 := n3_; clear n0_ n1_ n2_ n3_; clear hb hbox hg) | ((with_reducible refine gate_callee (f := 14) rfl ?_); refine goesL_ (some 21) rfl rfl Try.func14 (by kernel_rfl) rfl #[] rfl (by (try simp only [List.map_toArray, List.map_cons, List.map_nil]); first | done | rfl | (simp only [List.length_drop, List.length_take]; rfl)) ?_; (with_reducible refine (interlocutorlaw6_known.calls k  true _ A5.out).mono ?_); rintro e w33 ⟨rfl, hb⟩; refine ⟨_, rfl, ?_⟩; have n0_ := Aside0.mk (blk_below (g := gb281) (o := .cells #[.int .i64 a0_0, .int .i64 a0_1, .int .i64 a0_2, .int .i64 a0_3, .slice A0_4 l0_4.length c0_4, .bool a0_5] 24 (0, 0)) (by (with_reducible repeat (first | refine blk_drewN ?_ _ | refine blk_drew ?_ | refine blk_alloc ?_ _)); exact BK281.out) hb); have n1_ := Aside0.mk (below_step (by exact wS HB.out GE281.out) hb); clear BK281; clear HB; have BK281 := n0_; have HB := n1_; clear n0_ n1_; (try clear hb); (try clear hb2); (try clear hk); (try clear hi); have hcz34_0 : w33.cell? ⟨gb281, 0, none⟩ = some (.int .i64 a0_0) := (blk_cell BK281.out 0).trans rfl; have hcz34_1 : w33.cell? ⟨gb281, 1, none⟩ = some (.int .i64 a0_1) := (blk_cell BK281.out 1).trans rfl; have hcz34_2 : w33.cell? ⟨gb281, 2, none⟩ = some (.int .i64 a0_2) := (blk_cell BK281.out 2).trans rfl; have hcz34_3 : w33.cell? ⟨gb281, 3, none⟩ = some (.int .i64 a0_3) := (blk_cell BK281.out 3).trans rfl; have hcz34_4 : w33.cell? ⟨gb281, 4, none⟩ = some (.slice A0_4 l0_4.length c0_4) := (blk_cell BK281.out 4).trans rfl; have hcz34_5 : w33.cell? ⟨gb281, 5, none⟩ = some (.bool a0_5) := (blk_cell BK281.out 5).trans rfl; have hfz34_0 := blk_frozen BK281.out 0; have hfz34_1 := blk_frozen BK281.out 1; have hfz34_2 := blk_frozen BK281.out 2; have hfz34_3 := blk_frozen BK281.out 3; have hfz34_4 := blk_frozen BK281.out 4; have hfz34_5 := blk_frozen BK281.out 5) | ((with_reducible refine gate_callee (f := 15) rfl ?_); refine goesL_ (some 24) rfl rfl Try.func15 (by kernel_rfl) rfl #[.agg #[.int .i64 a0_0, .int .i64 a0_1, .int .i64 a0_2, .int .i64 a0_3, .slice A0_4 l0_4.length c0_4, .bool a0_5]] rfl (by (try simp only [List.map_toArray, List.map_cons, List.map_nil]); first | done | rfl | (simp only [List.length_drop, List.length_take]; rfl)) ?_; (with_reducible refine (interlocutorlaw5_Shape_Few.calls k a0_0 a0_1 a0_2 a0_3 _ _ l0_4 a0_5 true _ ?side1 ?side2 A7.out).mono ?_); (case side1 => repeat (first | exact (Kd.C_below HR0_4.out HB.out) | (with_reducible refine Kd.C_alloc ?_ _) | (with_reducible refine Kd.C_drewN ?_ _) | (with_reducible refine Kd.C_drew ?_))); (case side2 => exact HC0_4.out); rintro e w35 ⟨rfl, hb⟩; refine ⟨_, rfl, ?_⟩; have n0_ := Aside0.mk (blk_below (g := gb281) (o := .cells #[.int .i64 a0_0, .int .i64 a0_1, .int .i64 a0_2, .int .i64 a0_3, .slice A0_4 l0_4.length c0_4, .bool a0_5] 24 (0, 0)) (by (with_reducible repeat (first | refine blk_drewN ?_ _ | refine blk_drew ?_ | refine blk_alloc ?_ _)); exact BK281.out) hb); have n1_ := Aside0.mk (below_step (by exact wS HB.out GE281.out) hb); clear BK281; clear HB; have BK281 := n0_; have HB := n1_; clear n0_ n1_; (try clear hb); (try clear hb2); (try clear hk); (try clear hi); have hcz36_0 : w35.cell? ⟨gb281, 0, none⟩ = some (.int .i64 a0_0) := (blk_cell BK281.out 0).trans rfl; have hcz36_1 : w35.cell? ⟨gb281, 1, none⟩ = some (.int .i64 a0_1) := (blk_cell BK281.out 1).trans rfl; have hcz36_2 : w35.cell? ⟨gb281, 2, none⟩ = some (.int .i64 a0_2) := (blk_cell BK281.out 2).trans rfl; have hcz36_3 : w35.cell? ⟨gb281, 3, none⟩ = some (.int .i64 a0_3) := (blk_cell BK281.out 3).trans rfl; have hcz36_4 : w35.cell? ⟨gb281, 4, none⟩ = some (.slice A0_4 l0_4.length c0_4) := (blk_cell BK281.out 4).trans rfl; have hcz36_5 : w35.cell? ⟨gb281, 5, none⟩ = some (.bool a0_5) := (blk_cell BK281.out 5).trans rfl; have hfz36_0 := blk_frozen BK281.out 0; have hfz36_1 := blk_frozen BK281.out 1; have hfz36_2 := blk_frozen BK281.out 2; have hfz36_3 := blk_frozen BK281.out 3; have hfz36_4 := blk_frozen BK281.out 4; have hfz36_5 := blk_frozen BK281.out 5) | ((with_reducible refine gate_callee (f := 16) rfl ?_); refine goesL_ (some 27) rfl rfl Try.func16 (by kernel_rfl) rfl #[.agg #[.int .i64 a0_0, .int .i64 a0_1, .int .i64 a0_2, .int .i64 a0_3, .slice A0_4 l0_4.length c0_4, .bool a0_5], .int .i64 1] rfl (by (try simp only [List.map_toArray, List.map_cons, List.map_nil]); first | done | rfl | (simp only [List.length_drop, List.length_take]; rfl)) ?_; (with_reducible refine (interlocutorlaw6_Locale.calls k a0_0 a0_1 a0_2 a0_3 _ _ l0_4 a0_5 1 t284 t285 t286 t287 t290 t293 _ ?side1 ?side2 A9.out).mono ?_); (case side1 => repeat (first | exact (Kd.C_below HR0_4.out HB.out) | (with_reducible refine Kd.C_alloc ?_ _) | (with_reducible refine Kd.C_drewN ?_ _) | (with_reducible refine Kd.C_drew ?_))); (case side2 => exact HC0_4.out); rintro e w37 ⟨v288, v291, v294, rfl, ho0, ho1, ho2, hb⟩; refine ⟨_, rfl, ?_⟩; have n0_ := Aside0.mk (Kd.V_lower (Kd.V_mono (ok' := fun k_ => k_ ≠ gb281) ho0 (fun k_ hk_ => (Kd.freshB (g := gb281) (o := .cells #[.int .i64 a0_0, .int .i64 a0_1, .int .i64 a0_2, .int .i64 a0_3, .slice A0_4 l0_4.length c0_4, .bool a0_5] 24 (0, 0)) (by (with_reducible repeat (first | refine blk_drewN ?_ _ | refine blk_drew ?_ | refine blk_alloc ?_ _)); exact BK281.out) k_ hk_))) (below_size (by exact wS HB.out GE281.out))); have n1_ := Aside0.mk (Kd.V_lower (Kd.V_mono (ok' := fun k_ => k_ ≠ gb281) ho1 (fun k_ hk_ => (Kd.freshB (g := gb281) (o := .cells #[.int .i64 a0_0, .int .i64 a0_1, .int .i64 a0_2, .int .i64 a0_3, .slice A0_4 l0_4.length c0_4, .bool a0_5] 24 (0, 0)) (by (with_reducible repeat (first | refine blk_drewN ?_ _ | refine blk_drew ?_ | refine blk_alloc ?_ _)); exact BK281.out) k_ hk_))) (below_size (by exact wS HB.out GE281.out))); have n2_ := Aside0.mk (Kd.V_lower (Kd.V_mono (ok' := fun k_ => k_ ≠ gb281) ho2 (fun k_ hk_ => (Kd.freshB (g := gb281) (o := .cells #[.int .i64 a0_0, .int .i64 a0_1, .int .i64 a0_2, .int .i64 a0_3, .slice A0_4 l0_4.length c0_4, .bool a0_5] 24 (0, 0)) (by (with_reducible repeat (first | refine blk_drewN ?_ _ | refine blk_drew ?_ | refine blk_alloc ?_ _)); exact BK281.out) k_ hk_))) (below_size (by exact wS HB.out GE281.out))); have n3_ := Aside0.mk (blk_below (g := gb281) (o := .cells #[.int .i64 a0_0, .int .i64 a0_1, .int .i64 a0_2, .int .i64 a0_3, .slice A0_4 l0_4.length c0_4, .bool a0_5] 24 (0, 0)) (by (with_reducible repeat (first | refine blk_drewN ?_ _ | refine blk_drew ?_ | refine blk_alloc ?_ _)); exact BK281.out) hb); have n4_ := Aside0.mk (below_step (by exact wS HB.out GE281.out) hb); clear BK281; clear HB; have HO289 := n0_; have HO292 := n1_; have HO295 := n2_; have BK281 := n3_; have HB := n4_; clear n0_ n1_ n2_ n3_ n4_; (try clear hb); (try clear hb2); (try clear hk); (try clear hi); (try clear ho0); (try clear ho1); (try clear ho2)) | ((with_reducible refine gate_dst (N := 9) rfl ?_); (try (refine gate_guard (by rfl) ?_; dsimp only)); refine box_event ?hg (N := 9) ?hd (cs := #[.string (⟨#[]⟩ : ByteArray), .int .i64 0, .int .i64 0, .slice none 0 0, .slice none 0 0, .slice none 0 0]) (t := 32) ?hr ?_; (case hd => rfl); (case hg => rfl); (case hr => first | (go_simp; done) | (go_simp; rfl)); intro gb296 hg w38 hbox hb; have n0_ := Aside0.mk (Kd.V_below (Kd.V_elderB (by exact vU HO289.out) gb296 (Nat.le_of_eq hg.symm)) hb); have n1_ := Aside0.mk (Kd.V_below (Kd.V_elderB (by exact vU HO292.out) gb296 (Nat.le_of_eq hg.symm)) hb); have n2_ := Aside0.mk (Kd.V_below (Kd.V_elderB (by exact vU HO295.out) gb296 (Nat.le_of_eq hg.symm)) hb); have n3_ := Aside0.mk (blk_below (g := gb281) (o := .cells #[.int .i64 a0_0, .int .i64 a0_1, .int .i64 a0_2, .int .i64 a0_3, .slice A0_4 l0_4.length c0_4, .bool a0_5] 24 (0, 0)) (by (with_reducible repeat (first | refine blk_drewN ?_ _ | refine blk_drew ?_ | refine blk_alloc ?_ _)); exact BK281.out) hb); have n4_ := Aside0.mk (below_step (by exact wS HB.out GE281.out) hb); have n5_ := Aside0.mk (hbox); have n6_ := Aside0.mk ((by rw [hg]; exact (below_size (by exact wS HB.out GE281.out)) : w.heap.size ≤ gb296)); have n7_ := Aside0.mk ((by rw [hg]; exact (below_size (by exact wS HB.out GE281.out)) : w.heap.size ≤ gb296)); have n8_ := Aside0.mk ((by rw [hg]; exact Nat.ne_of_lt (blk_lt (g := gb281) (o := .cells #[.int .i64 a0_0, .int .i64 a0_1, .int .i64 a0_2, .int .i64 a0_3, .slice A0_4 l0_4.length c0_4, .bool a0_5] 24 (0, 0)) (by (with_reducible repeat (first | refine blk_drewN ?_ _ | refine blk_drew ?_ | refine blk_alloc ?_ _)); exact BK281.out)) : gb281 ≠ gb296)); have n9_ := Aside0.mk ((by rw [hg]; exact Nat.ne_of_gt (blk_lt (g := gb281) (o := .cells #[.int .i64 a0_0, .int .i64 a0_1, .int .i64 a0_2, .int .i64 a0_3, .slice A0_4 l0_4.length c0_4, .bool a0_5] 24 (0, 0)) (by (with_reducible repeat (first | refine blk_drewN ?_ _ | refine blk_drew ?_ | refine blk_alloc ?_ _)); exact BK281.out)) : gb296 ≠ gb281)); clear HO289; clear HO292; clear HO295; clear BK281; clear HB; have HO289 := n0_; have HO292 := n1_; have HO295 := n2_; have BK281 := n3_; have HB := n4_; have BK296 := n5_; have GW296 := n6_; have GE296 := n7_; have NB281_296 := n8_; have NB296_281 := n9_; clear n0_ n1_ n2_ n3_ n4_ n5_ n6_ n7_ n8_ n9_; clear hb hbox hg; have hnb39 := NB296_281.out; have hnc39 := NB281_296.out; have hcz40_0 : w38.cell? ⟨gb296, 0, none⟩ = some (.string (⟨#[]⟩ : ByteArray)) := (blk_cell BK296.out 0).trans rfl; have hcz40_1 : w38.cell? ⟨gb296, 1, none⟩ = some (.int .i64 0) := (blk_cell BK296.out 1).trans rfl; have hcz40_2 : w38.cell? ⟨gb296, 2, none⟩ = some (.int .i64 0) := (blk_cell BK296.out 2).trans rfl; have hcz40_3 : w38.cell? ⟨gb296, 3, none⟩ = some (.slice none 0 0) := (blk_cell BK296.out 3).trans rfl; have hcz40_4 : w38.cell? ⟨gb296, 4, none⟩ = some (.slice none 0 0) := (blk_cell BK296.out 4).trans rfl; have hcz40_5 : w38.cell? ⟨gb296, 5, none⟩ = some (.slice none 0 0) := (blk_cell BK296.out 5).trans rfl; have hfz40_0 := blk_frozen BK296.out 0; have hfz40_1 := blk_frozen BK296.out 1; have hfz40_2 := blk_frozen BK296.out 2; have hfz40_3 := blk_frozen BK296.out 3; have hfz40_4 := blk_frozen BK296.out 4; have hfz40_5 := blk_frozen BK296.out 5; obtain ⟨Ao41, co41, eo41⟩ := Kd.V_slice HO289.out; subst eo41; obtain ⟨Ao42, co42, eo42⟩ := Kd.V_slice HO292.out; subst eo42; obtain ⟨Ao43, co43, eo43⟩ := Kd.V_slice HO295.out; subst eo43) | ((with_reducible refine gate_callee (f := 17) rfl ?_); refine goesL_ (some 30) rfl rfl Try.func17 (by kernel_rfl) rfl #[.slice A1 l1.length c1, .int .i64 8] rfl (by (try simp only [List.map_toArray, List.map_cons, List.map_nil]); first | done | rfl | (simp only [List.length_drop, List.length_take]; rfl)) ?_; (with_reducible refine (interlocutorlaw6_Text.calls k _ _ l1 8 t297 _ ?side1 ?side2 A10.out).mono ?_); (case side1 => exact Kd.C_below HR1.out (by exact wZ HB.out GE281.out GE296.out)); (case side2 => exact HC1.out); rintro e w44 ⟨rfl, hb⟩; refine ⟨_, rfl, ?_⟩; have n0_ := Aside0.mk (Kd.V_below (by exact vU ((Kd.V_mono (Kd.V_far (p := ⟨gb296, 5, none⟩) (Kd.V_far (p := ⟨gb296, 4, none⟩) (Kd.V_far (p := ⟨gb296, 3, none⟩) (Kd.V_far (p := ⟨gb296, 2, none⟩) (Kd.V_far (p := ⟨gb296, 1, none⟩) (Kd.V_far (p := ⟨gb296, 0, none⟩) (Kd.V_mono HO289.out (fun k_ hk => (⟨hk, hk.2⟩ : _ ∧ k_ ≠ gb296))) (fun _ hk => hk.2) (.string t284)) (fun _ hk => hk.2) (.int .i64 t285)) (fun _ hk => hk.2) (.int .i64 t286)) (fun _ hk => hk.2) (.slice Ao41 t287.length co41)) (fun _ hk => hk.2) (.slice Ao42 t290.length co42)) (fun _ hk => hk.2) (.slice Ao43 t293.length co43)) (fun _ h_ => h_.1)))) hb); have n1_ := Aside0.mk (Kd.V_below (by exact vU ((Kd.V_mono (Kd.V_far (p := ⟨gb296, 5, none⟩) (Kd.V_far (p := ⟨gb296, 4, none⟩) (Kd.V_far (p := ⟨gb296, 3, none⟩) (Kd.V_far (p := ⟨gb296, 2, none⟩) (Kd.V_far (p := ⟨gb296, 1, none⟩) (Kd.V_far (p := ⟨gb296, 0, none⟩) (Kd.V_mono HO292.out (fun k_ hk => (⟨hk, hk.2⟩ : _ ∧ k_ ≠ gb296))) (fun _ hk => hk.2) (.string t284)) (fun _ hk => hk.2) (.int .i64 t285)) (fun _ hk => hk.2) (.int .i64 t286)) (fun _ hk => hk.2) (.slice Ao41 t287.length co41)) (fun _ hk => hk.2) (.slice Ao42 t290.length co42)) (fun _ hk => hk.2) (.slice Ao43 t293.length co43)) (fun _ h_ => h_.1)))) hb); have n2_ := Aside0.mk (Kd.V_below (by exact vU ((Kd.V_mono (Kd.V_far (p := ⟨gb296, 5, none⟩) (Kd.V_far (p := ⟨gb296, 4, none⟩) (Kd.V_far (p := ⟨gb296, 3, none⟩) (Kd.V_far (p := ⟨gb296, 2, none⟩) (Kd.V_far (p := ⟨gb296, 1, none⟩) (Kd.V_far (p := ⟨gb296, 0, none⟩) (Kd.V_mono HO295.out (fun k_ hk => (⟨hk, hk.2⟩ : _ ∧ k_ ≠ gb296))) (fun _ hk => hk.2) (.string t284)) (fun _ hk => hk.2) (.int .i64 t285)) (fun _ hk => hk.2) (.int .i64 t286)) (fun _ hk => hk.2) (.slice Ao41 t287.length co41)) (fun _ hk => hk.2) (.slice Ao42 t290.length co42)) (fun _ hk => hk.2) (.slice Ao43 t293.length co43)) (fun _ h_ => h_.1)))) hb); have n3_ := Aside0.mk (blk_below (g := gb281) (o := .cells #[.int .i64 a0_0, .int .i64 a0_1, .int .i64 a0_2, .int .i64 a0_3, .slice A0_4 l0_4.length c0_4, .bool a0_5] 24 (0, 0)) (by (with_reducible repeat (first | refine blk_drewN ?_ _ | refine blk_drew ?_ | refine blk_alloc ?_ _)); refine blk_far ?_ NB281_296.out _; (with_reducible repeat (first | refine blk_drewN ?_ _ | refine blk_drew ?_ | refine blk_alloc ?_ _)); refine blk_far ?_ NB281_296.out _; (with_reducible repeat (first | refine blk_drewN ?_ _ | refine blk_drew ?_ | refine blk_alloc ?_ _)); refine blk_far ?_ NB281_296.out _; (with_reducible repeat (first | refine blk_drewN ?_ _ | refine blk_drew ?_ | refine blk_alloc ?_ _)); refine blk_far ?_ NB281_296.out _; (with_reducible repeat (first | refine blk_drewN ?_ _ | refine blk_drew ?_ | refine blk_alloc ?_ _)); refine blk_far ?_ NB281_296.out _; (with_reducible repeat (first | refine blk_drewN ?_ _ | refine blk_drew ?_ | refine blk_alloc ?_ _)); refine blk_far ?_ NB281_296.out _; (with_reducible repeat (first | refine blk_drewN ?_ _ | refine blk_drew ?_ | refine blk_alloc ?_ _)); exact BK281.out) hb); have n4_ := Aside0.mk (blk_below (g := gb296) (o := .cells #[.string t284, .int .i64 t285, .int .i64 t286, .slice Ao41 t287.length co41, .slice Ao42 t290.length co42, .slice Ao43 t293.length co43] 32 (0, 0)) (by (with_reducible repeat (first | refine blk_drewN ?_ _ | refine blk_drew ?_ | refine blk_alloc ?_ _)); refine blk_put (cs := #[.string t284, .int .i64 t285, .int .i64 t286, .slice Ao41 t287.length co41, .slice Ao42 t290.length co42, .slice none 0 0]) ?_ 5 _ rfl; (with_reducible repeat (first | refine blk_drewN ?_ _ | refine blk_drew ?_ | refine blk_alloc ?_ _)); refine blk_put (cs := #[.string t284, .int .i64 t285, .int .i64 t286, .slice Ao41 t287.length co41, .slice none 0 0, .slice none 0 0]) ?_ 4 _ rfl; (with_reducible repeat (first | refine blk_drewN ?_ _ | refine blk_drew ?_ | refine blk_alloc ?_ _)); refine blk_put (cs := #[.string t284, .int .i64 t285, .int .i64 t286, .slice none 0 0, .slice none 0 0, .slice none 0 0]) ?_ 3 _ rfl; (with_reducible repeat (first | refine blk_drewN ?_ _ | refine blk_drew ?_ | refine blk_alloc ?_ _)); refine blk_put (cs := #[.string t284, .int .i64 t285, .int .i64 0, .slice none 0 0, .slice none 0 0, .slice none 0 0]) ?_ 2 _ rfl; (with_reducible repeat (first | refine blk_drewN ?_ _ | refine blk_drew ?_ | refine blk_alloc ?_ _)); refine blk_put (cs := #[.string t284, .int .i64 0, .int .i64 0, .slice none 0 0, .slice none 0 0, .slice none 0 0]) ?_ 1 _ rfl; (with_reducible repeat (first | refine blk_drewN ?_ _ | refine blk_drew ?_ | refine blk_alloc ?_ _)); refine blk_put (cs := #[.string (⟨#[]⟩ : ByteArray), .int .i64 0, .int .i64 0, .slice none 0 0, .slice none 0 0, .slice none 0 0]) ?_ 0 _ rfl; (with_reducible repeat (first | refine blk_drewN ?_ _ | refine blk_drew ?_ | refine blk_alloc ?_ _)); exact BK296.out) hb); have n5_ := Aside0.mk (below_step (by exact wZ HB.out GE281.out GE296.out) hb); clear HO289; clear HO292; clear HO295; clear BK281; clear BK296; clear HB; have HO289 := n0_; have HO292 := n1_; have HO295 := n2_; have BK281 := n3_; have BK296 := n4_; have HB := n5_; clear n0_ n1_ n2_ n3_ n4_ n5_; (try clear hb); (try clear hb2); (try clear hk); (try clear hi)) | ((with_reducible refine gate_callee (f := 19) rfl ?_); refine goesL_ (some 31) rfl rfl Try.func19 (by kernel_rfl) rfl #[.string t297] rfl (by (try simp only [List.map_toArray, List.map_cons, List.map_nil]); first | done | rfl | (simp only [List.length_drop, List.length_take]; rfl)) ?_; (with_reducible refine (interlocutorref3_Fold.calls k t297 t298 t299 _ A11.out).mono ?_); rintro e w45 ⟨v300, v302, rfl, ho0, ho1, hb⟩; refine ⟨_, rfl, ?_⟩; have n0_ := Aside0.mk (Kd.V_mono (Kd.V_told (Kd.V_told (Kd.V_old (by exact vU HO289.out) hb) (Kd.R_base ho0)) (Kd.R_base ho1)) (fun _ h_ => h_.1)); have n1_ := Aside0.mk (Kd.V_mono (Kd.V_told (Kd.V_told (Kd.V_old (by exact vU HO292.out) hb) (Kd.R_base ho0)) (Kd.R_base ho1)) (fun _ h_ => h_.1)); have n2_ := Aside0.mk (Kd.V_mono (Kd.V_told (Kd.V_told (Kd.V_old (by exact vU HO295.out) hb) (Kd.R_base ho0)) (Kd.R_base ho1)) (fun _ h_ => h_.1)); have n3_ := Aside0.mk (Kd.R_lower ho0 (below_size (by exact wZ HB.out GE281.out GE296.out))); have n4_ := Aside0.mk (Kd.R_lower ho1 (below_size (by exact wZ HB.out GE281.out GE296.out))); have n5_ := Aside0.mk (blk_below (g := gb281) (o := .cells #[.int .i64 a0_0, .int .i64 a0_1, .int .i64 a0_2, .int .i64 a0_3, .slice A0_4 l0_4.length c0_4, .bool a0_5] 24 (0, 0)) (by (with_reducible repeat (first | refine blk_drewN ?_ _ | refine blk_drew ?_ | refine blk_alloc ?_ _)); exact BK281.out) hb); have n6_ := Aside0.mk (blk_below (g := gb296) (o := .cells #[.string t284, .int .i64 t285, .int .i64 t286, .slice Ao41 t287.length co41, .slice Ao42 t290.length co42, .slice Ao43 t293.length co43] 32 (0, 0)) (by (with_reducible repeat (first | refine blk_drewN ?_ _ | refine blk_drew ?_ | refine blk_alloc ?_ _)); exact BK296.out) hb); have n7_ := Aside0.mk (below_step (by exact wZ HB.out GE281.out GE296.out) hb); clear HO289; clear HO292; clear HO295; clear BK281; clear BK296; clear HB; have HO289 := n0_; have HO292 := n1_; have HO295 := n2_; have HO301 := n3_; have HO303 := n4_; have BK281 := n5_; have BK296 := n6_; have HB := n7_; clear n0_ n1_ n2_ n3_ n4_ n5_ n6_ n7_; (try clear hb); (try clear hb2); (try clear hk); (try clear hi); (try clear ho0); (try clear ho1); obtain ⟨Ao46, co46, eo46⟩ := Kd.R_slice HO301.out; subst eo46) | ((with_reducible refine gate_callee (f := 27) rfl ?_); refine goesL_ (some 40) rfl rfl Try.func27 (by kernel_rfl) rfl #[.int .i64 a2, .int .i64 (t298.length : Int)] rfl (by (try simp only [List.map_toArray, List.map_cons, List.map_nil]); first | done | rfl | (simp only [List.length_drop, List.length_take]; rfl)) ?_; (with_reducible refine (interlocutorlaw6_within.calls a2 (t298.length : Int) t304 _ A28.out).mono ?_); rintro e w' ⟨rfl, ⟨nd, rfl⟩⟩; refine ⟨_, rfl, ?_⟩) | ((with_reducible refine gate_callee (f := 27) rfl ?_); refine goesL_ (some 47) rfl rfl Try.func27 (by kernel_rfl) rfl #[.int .i64 a3, .int .i64 ji29] rfl (by (try simp only [List.map_toArray, List.map_cons, List.map_nil]); first | done | (simp only [hji29]; rfl) | rfl | (simp only [List.length_drop, List.length_take]; rfl)) ?_; (with_reducible refine (interlocutorlaw6_within.calls a3 ji29 t305 _ A30.out).mono ?_); rintro e w' ⟨rfl, ⟨nd, rfl⟩⟩; refine ⟨_, rfl, ?_⟩))
    (try simp only [Act.put, List.setIfInBounds_toArray, List.set_cons_zero, List.set_cons_succ])
    go_cut [63] (fun v63 wc => ∃ (kq : Nat) (x63_30 : Bool), v63 = .bool x63_30 ∧ Aside0 (interlocutorlaw6_LexMore.j0 kq t298 t304 (wrap64 (1 + t305)) x63_30 t284 t285 t286 t287 t290 t293 = some r) ∧ Aside0 (kq ≤ k) ∧ Aside0 (Kd.R (Kd.int .i64) 3 wc w.heap.size (fun _ => True) (.slice Ao46 t298.length co46) t298) ∧ Aside0 (Kd.V k53 53 wc w.heap.size (fun k_ => some k_ ≠ ((.slice Ao46 t298.length co46) : Value).ownBlock ∧ k_ ≠ gb281 ∧ k_ ≠ gb296) (.slice Ao41 t287.length co41) t287) ∧ Aside0 (Kd.V k108 108 wc w.heap.size (fun k_ => some k_ ≠ ((.slice Ao46 t298.length co46) : Value).ownBlock ∧ k_ ≠ gb281 ∧ k_ ≠ gb296) (.slice Ao42 t290.length co42) t290) ∧ Aside0 (Kd.V k138 138 wc w.heap.size (fun k_ => some k_ ≠ ((.slice Ao46 t298.length co46) : Value).ownBlock ∧ k_ ≠ gb281 ∧ k_ ≠ gb296) (.slice Ao43 t293.length co43) t293) ∧ Aside0 (wc.heap[gb281]? = some (.cells #[.int .i64 a0_0, .int .i64 a0_1, .int .i64 a0_2, .int .i64 a0_3, (.slice A0_4 l0_4.length c0_4), .bool a0_5] 24 (0, 0))) ∧ Aside0 (wc.heap[gb296]? = some (.cells #[.string t284, .int .i64 t285, .int .i64 t286, (.slice Ao41 t287.length co41), (.slice Ao42 t290.length co42), (.slice Ao43 t293.length co43)] 32 (0, 0))) ∧ Aside0 (Below w.heap.size w wc))
    case first =>
     have H := HC31.out
     clear HC31
     by_cases c47 : 0 ≤ t304
     ·rw [if_pos c47] at H
      have c47b0 : decide (0 ≤ t304) = true := decide_eq_true c47
      clear c47
      (first | rw [c47b0] | (simp only [i64_w, i32_w]; rw [c47b0]) | skip)
      by_cases c48 : t304 < (t298.length : Int)
      ·rw [if_pos c48] at H
       have c48b0 : decide (t304 < (t298.length : Int)) = true := decide_eq_true c48
       clear c48
       by_cases c49 : (rd t298 t304) = 32
       ·rw [if_pos c49] at H
        have c49b0 : ((rd t298 t304) == 32) = true := beq_iff_eq.mpr c49
        have c49b1 : ((rd t298 t304) != 32) = false := bne_eq_false_iff_eq.mpr c49
        clear c49
        have H' := Aside0.mk H
        clear H
        have p306 : 0 ≤ (t304 : Int) := of_decide_eq_true (by first | (with_reducible assumption) | assumption)
        have q306 : t304 < (t298.length : Int) := of_decide_eq_true (by first | (with_reducible assumption) | assumption)
        obtain ⟨ad306, e306, hx306_0⟩ := Kd.at_int (Kd.R_reads' HO301.out).2.2 t304 p306 q306
        cases e306
        replace p306 := eq_true p306
        replace q306 := eq_true q306
        go_wp2
        go_meet
        case rel => exact ⟨_, (true), (by first | rfl | (simp; done) | (simp [*]; done)), H', ⟨by first | omega | exact Nat.le_refl _⟩, ⟨by exact rU (Kd.R_mono HO301.out (fun _ hk => trivial))⟩, ⟨by exact vU (Kd.V_mono HO289.out (fun _ hk => ⟨hk.1.2, ⟨hk.1.1.1, hk.1.1.2⟩⟩))⟩, ⟨by exact vU (Kd.V_mono HO292.out (fun _ hk => ⟨hk.1.2, ⟨hk.1.1.1, hk.1.1.2⟩⟩))⟩, ⟨by exact vU (Kd.V_mono HO295.out (fun _ hk => ⟨hk.1.2, ⟨hk.1.1.1, hk.1.1.2⟩⟩))⟩, ⟨by (with_reducible repeat (first | refine blk_drewN ?_ _ | refine blk_drew ?_ | refine blk_alloc ?_ _)); exact BK281.out⟩, ⟨by (with_reducible repeat (first | refine blk_drewN ?_ _ | refine blk_drew ?_ | refine blk_alloc ?_ _)); exact BK296.out⟩, ⟨by exact wZ HB.out GE281.out GE296.out⟩⟩
       ·rw [if_neg c49] at H
        have c49b0 : ((rd t298 t304) == 32) = false := beq_eq_false_iff_ne.mpr c49
        have c49b1 : ((rd t298 t304) != 32) = true := bne_iff_ne.mpr c49
        obtain ⟨ji50, hji50⟩ : ∃ j_ : Int, (wrap64 ((wrap64 (t304 + (wrap64 (1 + t305)))) - 1)) = j_ := ⟨_, rfl⟩
        replace H : (if 0 ≤ (ji50) then (if (ji50) < (t298.length : Int) then (interlocutorlaw6_LexMore.j0 k t298 t304 (wrap64 (1 + t305)) ((rd t298 (ji50)) == 32) t284 t285 t286 t287 t290 t293) else (none)) else (none)) = some r := by first | (rw [hji50] at H; exact H) | (simp only [hji50] at H ⊢; exact H)
        have hji50w : (IntKind.i64.wrap ((wrap64 (t304 + (wrap64 (1 + t305)))) - 1)) = ji50 := (i64_w _).trans hji50
        by_cases c51 : 0 ≤ (ji50)
        ·rw [if_pos c51] at H
         have c51b0 : decide (0 ≤ (ji50)) = true := decide_eq_true c51
         clear c51
         by_cases c52 : (ji50) < (t298.length : Int)
         ·rw [if_pos c52] at H
          have c52b0 : decide ((ji50) < (t298.length : Int)) = true := decide_eq_true c52
          clear c52
          have H' := Aside0.mk H
          clear H
          have p306 : 0 ≤ (t304 : Int) := of_decide_eq_true (by first | (with_reducible assumption) | assumption)
          have q306 : t304 < (t298.length : Int) := of_decide_eq_true (by first | (with_reducible assumption) | assumption)
          obtain ⟨ad306, e306, hx306_0⟩ := Kd.at_int (Kd.R_reads' HO301.out).2.2 t304 p306 q306
          cases e306
          replace p306 := eq_true p306
          replace q306 := eq_true q306
          have p307 : 0 ≤ ((ji50) : Int) := of_decide_eq_true (by first | (with_reducible assumption) | assumption)
          have q307 : (ji50) < (t298.length : Int) := of_decide_eq_true (by first | (with_reducible assumption) | assumption)
          obtain ⟨ad307, e307, hx307_0⟩ := Kd.at_int (Kd.R_reads' HO301.out).2.2 (ji50) p307 q307
          obtain rfl : ad306 = ad307 := (by injection e307)
          replace p307 := eq_true p307
          replace q307 := eq_true q307
          go_wp2
          go_meet
          case rel => exact ⟨_, (((rd t298 (ji50)) == 32)), (by first | rfl | (simp; done) | (simp only [← hji50] <;> (first | rfl | simp)) | (simp [*]; done)), H', ⟨by first | omega | exact Nat.le_refl _⟩, ⟨by exact rU (Kd.R_mono HO301.out (fun _ hk => trivial))⟩, ⟨by exact vU (Kd.V_mono HO289.out (fun _ hk => ⟨hk.1.2, ⟨hk.1.1.1, hk.1.1.2⟩⟩))⟩, ⟨by exact vU (Kd.V_mono HO292.out (fun _ hk => ⟨hk.1.2, ⟨hk.1.1.1, hk.1.1.2⟩⟩))⟩, ⟨by exact vU (Kd.V_mono HO295.out (fun _ hk => ⟨hk.1.2, ⟨hk.1.1.1, hk.1.1.2⟩⟩))⟩, ⟨by (with_reducible repeat (first | refine blk_drewN ?_ _ | refine blk_drew ?_ | refine blk_alloc ?_ _)); exact BK281.out⟩, ⟨by (with_reducible repeat (first | refine blk_drewN ?_ _ | refine blk_drew ?_ | refine blk_alloc ?_ _)); exact BK296.out⟩, ⟨by exact wZ HB.out GE281.out GE296.out⟩⟩
         ·rw [if_neg c52] at H
          exact absurd H (by simp)
        ·rw [if_neg c51] at H
         exact absurd H (by simp)
      ·rw [if_neg c48] at H
       exact absurd H (by simp)
     ·rw [if_neg c47] at H
      exact absurd H (by simp)
    case rest =>
     clear HC31
     try clear c1
     try clear c2
     try clear p2
     try clear c3
     try clear p3
     try clear q3
     try clear hx3
     try clear c4
     try clear c5
     try clear c6
     try clear p6
     try clear c8
     try clear c9
     try clear c12
     try clear c12b0
     try clear c12b1
     try clear c12b2
     try clear c14
     try clear c15
     try clear c16
     try clear c17
     try clear c19
     try clear c20
     try clear c27
     try clear p30
     try clear q30
     try clear hx30
     try clear c39
     try clear c47
     try clear c47b0
     try clear c48
     try clear c48b0
     try clear c49
     try clear c49b0
     try clear c49b1
     try clear c51
     try clear c51b0
     try clear c52
     try clear c52b0
     try clear hcz15_0
     try clear hcz15_1
     try clear hcz15_2
     try clear hcz15_3
     try clear hcz15_4
     try clear hcz15_5
     try clear hcz17_0
     try clear hcz17_1
     try clear hcz17_2
     try clear hcz17_3
     try clear hcz17_4
     try clear hcz17_5
     try clear hcz21_0
     try clear hcz21_1
     try clear hcz21_2
     try clear hcz21_3
     try clear hcz21_4
     try clear hcz21_5
     try clear hcz34_0
     try clear hcz34_1
     try clear hcz34_2
     try clear hcz34_3
     try clear hcz34_4
     try clear hcz34_5
     try clear hcz36_0
     try clear hcz36_1
     try clear hcz36_2
     try clear hcz36_3
     try clear hcz36_4
     try clear hcz36_5
     try clear hcz40_0
     try clear hcz40_1
     try clear hcz40_2
     try clear hcz40_3
     try clear hcz40_4
     try clear hcz40_5
     try clear hfz15_0
     try clear hfz15_1
     try clear hfz15_2
     try clear hfz15_3
     try clear hfz15_4
     try clear hfz15_5
     try clear hfz17_0
     try clear hfz17_1
     try clear hfz17_2
     try clear hfz17_3
     try clear hfz17_4
     try clear hfz17_5
     try clear hfz21_0
     try clear hfz21_1
     try clear hfz21_2
     try clear hfz21_3
     try clear hfz21_4
     try clear hfz21_5
     try clear hfz34_0
     try clear hfz34_1
     try clear hfz34_2
     try clear hfz34_3
     try clear hfz34_4
     try clear hfz34_5
     try clear hfz36_0
     try clear hfz36_1
     try clear hfz36_2
     try clear hfz36_3
     try clear hfz36_4
     try clear hfz36_5
     try clear hfz40_0
     try clear hfz40_1
     try clear hfz40_2
     try clear hfz40_3
     try clear hfz40_4
     try clear hfz40_5
     try clear hx306_0
     try clear hx307_0
     try clear p306
     try clear p307
     try clear q306
     try clear q307
     obtain ⟨kq, x63_30, rfl, HA, HJ30, HO_10, HO_297003, HO_297004, HO_297005, BK281, BK296, HB⟩ := hcut
     cases kq with
     | zero => exact absurd HA.out (by simp [interlocutorlaw6_LexMore.j0])
     | succ kj30 =>
      have H := HA.out
      clear HA
      simp only [interlocutorlaw6_LexMore.j0] at H
      by_cases c53 : x63_30 = true
      ·subst c53
       have H1 : (some true) = some r := by rw [if_pos rfl] at H; exact H
       clear H
       have H := H1
       clear H1
       obtain rfl := Option.some.inj H
       go_wp2
       go_ret
       exact ⟨by first | rfl | (simp [errW_none, errW_some] <;> rfl) | (simp only [← hji29]; first | rfl | (simp [errW_none, errW_some] <;> rfl)) | (simp [*, errW_none, errW_some] <;> rfl), by exact wZ HB.out GE281.out GE296.out⟩
      ·replace c53 := Bool.eq_false_iff.mpr c53
       subst c53
       have H1 : (interlocutorlaw6_LexMore.l0 kj30 t298 t304 (wrap64 (1 + t305)) (⟨#[]⟩ : ByteArray) t304 t284 t285 t286 t287 t290 t293) = some r := by rw [if_neg (show ¬ (false = true) by decide)] at H; exact H
       clear H
       have H := H1
       clear H1
       have HC54 := Aside0.mk H
       clear H
       go_upto_block 0 with (fail)
       go_cut [14] (fun v14 wc => ∃ (kq : Nat) (x14_53 : ByteArray), v14 = .string x14_53 ∧ Aside0 (interlocutorlaw6_LexMore.j2 kq t298 x14_53 t284 t285 t286 t287 t290 t293 = some r) ∧ Aside0 (kq ≤ kj30) ∧ Aside0 (Kd.R (Kd.int .i64) 3 wc w.heap.size (fun _ => True) (.slice Ao46 t298.length co46) t298) ∧ Aside0 (Kd.V k53 53 wc w.heap.size (fun k_ => some k_ ≠ ((.slice Ao46 t298.length co46) : Value).ownBlock ∧ k_ ≠ gb281 ∧ k_ ≠ gb296) (.slice Ao41 t287.length co41) t287) ∧ Aside0 (Kd.V k108 108 wc w.heap.size (fun k_ => some k_ ≠ ((.slice Ao46 t298.length co46) : Value).ownBlock ∧ k_ ≠ gb281 ∧ k_ ≠ gb296) (.slice Ao42 t290.length co42) t290) ∧ Aside0 (Kd.V k138 138 wc w.heap.size (fun k_ => some k_ ≠ ((.slice Ao46 t298.length co46) : Value).ownBlock ∧ k_ ≠ gb281 ∧ k_ ≠ gb296) (.slice Ao43 t293.length co43) t293) ∧ Aside0 (wc.heap[gb281]? = some (.cells #[.int .i64 a0_0, .int .i64 a0_1, .int .i64 a0_2, .int .i64 a0_3, (.slice A0_4 l0_4.length c0_4), .bool a0_5] 24 (0, 0))) ∧ Aside0 (wc.heap[gb296]? = some (.cells #[.string t284, .int .i64 t285, .int .i64 t286, (.slice Ao41 t287.length co41), (.slice Ao42 t290.length co42), (.slice Ao43 t293.length co43)] 32 (0, 0))) ∧ Aside0 (Below w.heap.size w wc))
       case first =>
        have H := HC54.out
        clear HC54
        have H' := Aside0.mk H
        clear H
        go_wp2
        go_loopg [14, 15] kj30 (fun kq v14 v15 w' => ∃ (x14_2 : ByteArray) (x15_2 : Int), v14 = .string x14_2 ∧ v15 = .int .i64 x15_2 ∧ Aside0 (interlocutorlaw6_LexMore.l0 kq t298 t304 (wrap64 (1 + t305)) x14_2 x15_2 t284 t285 t286 t287 t290 t293 = some r) ∧ Aside0 (kq ≤ kj30) ∧ Aside0 (Kd.R (Kd.int .i64) 3 w' w.heap.size (fun _ => True) (.slice Ao46 t298.length co46) t298) ∧ Aside0 (Kd.V k53 53 w' w.heap.size (fun k_ => some k_ ≠ ((.slice Ao46 t298.length co46) : Value).ownBlock ∧ k_ ≠ gb281 ∧ k_ ≠ gb296) (.slice Ao41 t287.length co41) t287) ∧ Aside0 (Kd.V k108 108 w' w.heap.size (fun k_ => some k_ ≠ ((.slice Ao46 t298.length co46) : Value).ownBlock ∧ k_ ≠ gb281 ∧ k_ ≠ gb296) (.slice Ao42 t290.length co42) t290) ∧ Aside0 (Kd.V k138 138 w' w.heap.size (fun k_ => some k_ ≠ ((.slice Ao46 t298.length co46) : Value).ownBlock ∧ k_ ≠ gb281 ∧ k_ ≠ gb296) (.slice Ao43 t293.length co43) t293) ∧ Aside0 (w'.heap[gb281]? = some (.cells #[.int .i64 a0_0, .int .i64 a0_1, .int .i64 a0_2, .int .i64 a0_3, (.slice A0_4 l0_4.length c0_4), .bool a0_5] 24 (0, 0))) ∧ Aside0 (w'.heap[gb296]? = some (.cells #[.string t284, .int .i64 t285, .int .i64 t286, (.slice Ao41 t287.length co41), (.slice Ao42 t290.length co42), (.slice Ao43 t293.length co43)] 32 (0, 0))) ∧ Aside0 (Below w.heap.size w w'))
        case atStart => exact ⟨((⟨#[]⟩ : ByteArray)), (t304), (by first | rfl | (simp; done) | (simp [*]; done)), (by first | rfl | (simp; done) | (simp [*]; done)), H', ⟨Nat.le_refl _⟩, ⟨by exact rU HO_10.out⟩, ⟨by exact vU HO_297003.out⟩, ⟨by exact vU HO_297004.out⟩, ⟨by exact vU HO_297005.out⟩, ⟨by (with_reducible repeat (first | refine blk_drewN ?_ _ | refine blk_drew ?_ | refine blk_alloc ?_ _)); exact BK281.out⟩, ⟨by (with_reducible repeat (first | refine blk_drewN ?_ _ | refine blk_drew ?_ | refine blk_alloc ?_ _)); exact BK296.out⟩, ⟨by exact wZ HB.out GE281.out GE296.out⟩⟩
        case round =>
         clear H'
         try clear c1
         try clear c2
         try clear p2
         try clear c3
         try clear p3
         try clear q3
         try clear hx3
         try clear c4
         try clear c5
         try clear c6
         try clear p6
         try clear c8
         try clear c9
         try clear c12
         try clear c12b0
         try clear c12b1
         try clear c12b2
         try clear c14
         try clear c15
         try clear c16
         try clear c17
         try clear c19
         try clear c20
         try clear c27
         try clear p30
         try clear q30
         try clear hx30
         try clear c39
         try clear c47
         try clear c47b0
         try clear c48
         try clear c48b0
         try clear c49
         try clear c49b0
         try clear c49b1
         try clear c51
         try clear c51b0
         try clear c52
         try clear c52b0
         try clear c53
         try clear hcz15_0
         try clear hcz15_1
         try clear hcz15_2
         try clear hcz15_3
         try clear hcz15_4
         try clear hcz15_5
         try clear hcz17_0
         try clear hcz17_1
         try clear hcz17_2
         try clear hcz17_3
         try clear hcz17_4
         try clear hcz17_5
         try clear hcz21_0
         try clear hcz21_1
         try clear hcz21_2
         try clear hcz21_3
         try clear hcz21_4
         try clear hcz21_5
         try clear hcz34_0
         try clear hcz34_1
         try clear hcz34_2
         try clear hcz34_3
         try clear hcz34_4
         try clear hcz34_5
         try clear hcz36_0
         try clear hcz36_1
         try clear hcz36_2
         try clear hcz36_3
         try clear hcz36_4
         try clear hcz36_5
         try clear hcz40_0
         try clear hcz40_1
         try clear hcz40_2
         try clear hcz40_3
         try clear hcz40_4
         try clear hcz40_5
         try clear hfz15_0
         try clear hfz15_1
         try clear hfz15_2
         try clear hfz15_3
         try clear hfz15_4
         try clear hfz15_5
         try clear hfz17_0
         try clear hfz17_1
         try clear hfz17_2
         try clear hfz17_3
         try clear hfz17_4
         try clear hfz17_5
         try clear hfz21_0
         try clear hfz21_1
         try clear hfz21_2
         try clear hfz21_3
         try clear hfz21_4
         try clear hfz21_5
         try clear hfz34_0
         try clear hfz34_1
         try clear hfz34_2
         try clear hfz34_3
         try clear hfz34_4
         try clear hfz34_5
         try clear hfz36_0
         try clear hfz36_1
         try clear hfz36_2
         try clear hfz36_3
         try clear hfz36_4
         try clear hfz36_5
         try clear hfz40_0
         try clear hfz40_1
         try clear hfz40_2
         try clear hfz40_3
         try clear hfz40_4
         try clear hfz40_5
         try clear hx306_0
         try clear hx307_0
         try clear p2
         try clear p3
         try clear p30
         try clear p306
         try clear p307
         try clear p6
         try clear q3
         try clear q30
         try clear q306
         try clear q307
         obtain ⟨x14_2, x15_2, rfl, rfl, HA, HK2, HO_10, HO_297003, HO_297004, HO_297005, BK281, BK296, HB⟩ := hrel
         cases gk with
         | zero => exact absurd HA.out (by simp [interlocutorlaw6_LexMore.l0])
         | succ k2 =>
          have H := HA.out
          clear HA
          simp only [interlocutorlaw6_LexMore.l0] at H
          by_cases c55 : x15_2 < (wrap64 (t304 + (wrap64 (1 + t305))))
          ·rw [if_pos c55] at H
           have c55b0 : decide (x15_2 < (wrap64 (t304 + (wrap64 (1 + t305))))) = true := decide_eq_true c55
           clear c55
           (first | rw [c55b0] | (simp only [i64_w, i32_w]; rw [c55b0]) | skip)
           by_cases c56 : x15_2 < (t298.length : Int)
           ·rw [if_pos c56] at H
            have c56b0 : decide (x15_2 < (t298.length : Int)) = true := decide_eq_true c56
            clear c56
            by_cases c57 : 0 ≤ x15_2
            ·rw [if_pos c57] at H
             have c57b0 : decide (0 ≤ x15_2) = true := decide_eq_true c57
             clear c57
             replace H := Option.bind_eq_some_iff.mp H
             obtain ⟨t309, A580, H⟩ := H
             replace H : (if x14_2.size + t309.size ≤ 9223372036854775807 then (interlocutorlaw6_LexMore.l0 k2 t298 t304 (wrap64 (1 + t305)) (x14_2 ++ t309) (wrap64 (x15_2 + 1)) t284 t285 t286 t287 t290 t293) else (none)) = some r := H
             have A58 := Aside0.mk A580
             clear A580
             by_cases c59 : x14_2.size + t309.size ≤ 9223372036854775807
             ·rw [if_pos c59] at H
              have c59b0 := eq_true c59
              have c59b1 : decide (x14_2.size + t309.size ≤ 9223372036854775807) = true := decide_eq_true c59
              try have c59b2 : (9223372036854775807 < x14_2.size + t309.size) = False := eq_false (Nat.not_lt.2 c59)
              try (have c59b3 := c59b2; simp only [ByteArray.size_append] at c59b3)
              try (have c59b4 := c59b2; simp only [ByteArray.size_append, ByteArray.size_extract, Nat.min_self] at c59b4)
              try (have c59b5 := c59b2; simp only [ByteArray.size_append, ByteArray.size_extract, Nat.min_self, size_mk_, List.size_toArray, List.length_cons, List.length_nil, Nat.zero_add, Nat.reduceAdd] at c59b5)
              have H' := Aside0.mk H
              clear H
              have p308 : 0 ≤ (x15_2 : Int) := of_decide_eq_true (by first | (with_reducible assumption) | assumption)
              have q308 : x15_2 < (t298.length : Int) := of_decide_eq_true (by first | (with_reducible assumption) | assumption)
              obtain ⟨ad308, e308, hx308_0⟩ := Kd.at_int (Kd.R_reads' HO_10.out).2.2 x15_2 p308 q308
              cases e308
              replace p308 := eq_true p308
              replace q308 := eq_true q308
              go_wp2_with (first | ((with_reducible refine gate_callee (f := 28) rfl ?_); refine goesL_ (some 83) rfl rfl Try.func28 (by kernel_rfl) rfl #[.int .i64 (rd t298 x15_2)] rfl (by (try simp only [List.map_toArray, List.map_cons, List.map_nil]); first | done | rfl | (simp only [List.length_drop, List.length_take]; rfl)) ?_; (with_reducible refine (interlocutorref3_One.calls (rd t298 x15_2) t309 _ A58.out).mono ?_); rintro e w60 ⟨rfl, hb⟩; refine ⟨_, rfl, ?_⟩; have n0_ := Aside0.mk (Kd.R_below (by exact rU HO_10.out) hb); have n1_ := Aside0.mk (Kd.V_below (by exact vU HO_297003.out) hb); have n2_ := Aside0.mk (Kd.V_below (by exact vU HO_297004.out) hb); have n3_ := Aside0.mk (Kd.V_below (by exact vU HO_297005.out) hb); have n4_ := Aside0.mk (blk_below (g := gb281) (o := .cells #[.int .i64 a0_0, .int .i64 a0_1, .int .i64 a0_2, .int .i64 a0_3, .slice A0_4 l0_4.length c0_4, .bool a0_5] 24 (0, 0)) (by (with_reducible repeat (first | refine blk_drewN ?_ _ | refine blk_drew ?_ | refine blk_alloc ?_ _)); exact BK281.out) hb); have n5_ := Aside0.mk (blk_below (g := gb296) (o := .cells #[.string t284, .int .i64 t285, .int .i64 t286, .slice Ao41 t287.length co41, .slice Ao42 t290.length co42, .slice Ao43 t293.length co43] 32 (0, 0)) (by (with_reducible repeat (first | refine blk_drewN ?_ _ | refine blk_drew ?_ | refine blk_alloc ?_ _)); exact BK296.out) hb); have n6_ := Aside0.mk (below_step (by exact wZ HB.out GE281.out GE296.out) hb); clear HO_10; clear HO_297003; clear HO_297004; clear HO_297005; clear BK281; clear BK296; clear HB; have HO_10 := n0_; have HO_297003 := n1_; have HO_297004 := n2_; have HO_297005 := n3_; have BK281 := n4_; have BK296 := n5_; have HB := n6_; clear n0_ n1_ n2_ n3_ n4_ n5_ n6_; (try clear hb); (try clear hb2); (try clear hk); (try clear hi)))
              go_roundg k2
              case measure => have := HJ30.out; have := HK2.out; omega
              case rel => exact ⟨(x14_2 ++ t309), (wrap64 (x15_2 + 1)), (by first | rfl | (simp; done) | (simp [*]; done)), (by first | rfl | (simp; done) | (simp [*]; done)), H', ⟨by have := HJ30.out; have := HK2.out; omega⟩, ⟨by exact rU HO_10.out⟩, ⟨by exact vU HO_297003.out⟩, ⟨by exact vU HO_297004.out⟩, ⟨by exact vU HO_297005.out⟩, ⟨by (with_reducible repeat (first | refine blk_drewN ?_ _ | refine blk_drew ?_ | refine blk_alloc ?_ _)); exact BK281.out⟩, ⟨by (with_reducible repeat (first | refine blk_drewN ?_ _ | refine blk_drew ?_ | refine blk_alloc ?_ _)); exact BK296.out⟩, ⟨by exact wZ HB.out GE281.out GE296.out⟩⟩
             ·rw [if_neg c59] at H
              exact absurd H (by simp)
            ·rw [if_neg c57] at H
             exact absurd H (by simp)
           ·rw [if_neg c56] at H
            have c56b0 : decide (x15_2 < (t298.length : Int)) = false := decide_eq_false c56
            clear c56
            have H' := Aside0.mk H
            clear H
            go_wp2
            go_meet
            case rel => exact ⟨_, (x14_2), (by first | rfl | (simp; done) | (simp [*]; done)), H', ⟨by have := HJ30.out; have := HK2.out; first | omega | exact Nat.le_refl _⟩, ⟨by exact rU HO_10.out⟩, ⟨by exact vU HO_297003.out⟩, ⟨by exact vU HO_297004.out⟩, ⟨by exact vU HO_297005.out⟩, ⟨by (with_reducible repeat (first | refine blk_drewN ?_ _ | refine blk_drew ?_ | refine blk_alloc ?_ _)); exact BK281.out⟩, ⟨by (with_reducible repeat (first | refine blk_drewN ?_ _ | refine blk_drew ?_ | refine blk_alloc ?_ _)); exact BK296.out⟩, ⟨by exact wZ HB.out GE281.out GE296.out⟩⟩
          ·rw [if_neg c55] at H
           have c55b0 : decide (x15_2 < (wrap64 (t304 + (wrap64 (1 + t305))))) = false := decide_eq_false c55
           clear c55
           (first | rw [c55b0] | (simp only [i64_w, i32_w]; rw [c55b0]) | skip)
           have H' := Aside0.mk H
           clear H
           go_wp2
           go_meet
           case rel => exact ⟨_, (x14_2), (by first | rfl | (simp; done) | (simp [*]; done)), H', ⟨by have := HJ30.out; have := HK2.out; first | omega | exact Nat.le_refl _⟩, ⟨by exact rU HO_10.out⟩, ⟨by exact vU HO_297003.out⟩, ⟨by exact vU HO_297004.out⟩, ⟨by exact vU HO_297005.out⟩, ⟨by (with_reducible repeat (first | refine blk_drewN ?_ _ | refine blk_drew ?_ | refine blk_alloc ?_ _)); exact BK281.out⟩, ⟨by (with_reducible repeat (first | refine blk_drewN ?_ _ | refine blk_drew ?_ | refine blk_alloc ?_ _)); exact BK296.out⟩, ⟨by exact wZ HB.out GE281.out GE296.out⟩⟩
       case rest =>
        clear HC54
        try clear c1
        try clear c2
        try clear p2
        try clear c3
        try clear p3
        try clear q3
        try clear hx3
        try clear c4
        try clear c5
        try clear c6
        try clear p6
        try clear c8
        try clear c9
        try clear c12
        try clear c12b0
        try clear c12b1
        try clear c12b2
        try clear c14
        try clear c15
        try clear c16
        try clear c17
        try clear c19
        try clear c20
        try clear c27
        try clear c28
        try clear p30
        try clear q30
        try clear hx30
        try clear c39
        try clear c47
        try clear c47b0
        try clear c48
        try clear c48b0
        try clear c49
        try clear c49b0
        try clear c49b1
        try clear c51
        try clear c51b0
        try clear c52
        try clear c52b0
        try clear c53
        try clear c55
        try clear c55b0
        try clear c56
        try clear c56b0
        try clear c57
        try clear c57b0
        try clear c59
        try clear c59b0
        try clear c59b1
        try clear c59b2
        try clear hcz15_0
        try clear hcz15_1
        try clear hcz15_2
        try clear hcz15_3
        try clear hcz15_4
        try clear hcz15_5
        try clear hcz17_0
        try clear hcz17_1
        try clear hcz17_2
        try clear hcz17_3
        try clear hcz17_4
        try clear hcz17_5
        try clear hcz21_0
        try clear hcz21_1
        try clear hcz21_2
        try clear hcz21_3
        try clear hcz21_4
        try clear hcz21_5
        try clear hcz34_0
        try clear hcz34_1
        try clear hcz34_2
        try clear hcz34_3
        try clear hcz34_4
        try clear hcz34_5
        try clear hcz36_0
        try clear hcz36_1
        try clear hcz36_2
        try clear hcz36_3
        try clear hcz36_4
        try clear hcz36_5
        try clear hcz40_0
        try clear hcz40_1
        try clear hcz40_2
        try clear hcz40_3
        try clear hcz40_4
        try clear hcz40_5
        try clear hfz15_0
        try clear hfz15_1
        try clear hfz15_2
        try clear hfz15_3
        try clear hfz15_4
        try clear hfz15_5
        try clear hfz17_0
        try clear hfz17_1
        try clear hfz17_2
        try clear hfz17_3
        try clear hfz17_4
        try clear hfz17_5
        try clear hfz21_0
        try clear hfz21_1
        try clear hfz21_2
        try clear hfz21_3
        try clear hfz21_4
        try clear hfz21_5
        try clear hfz34_0
        try clear hfz34_1
        try clear hfz34_2
        try clear hfz34_3
        try clear hfz34_4
        try clear hfz34_5
        try clear hfz36_0
        try clear hfz36_1
        try clear hfz36_2
        try clear hfz36_3
        try clear hfz36_4
        try clear hfz36_5
        try clear hfz40_0
        try clear hfz40_1
        try clear hfz40_2
        try clear hfz40_3
        try clear hfz40_4
        try clear hfz40_5
        try clear hx306_0
        try clear hx307_0
        try clear hx308_0
        try clear p2
        try clear p3
        try clear p30
        try clear p306
        try clear p307
        try clear p308
        try clear p6
        try clear q3
        try clear q30
        try clear q306
        try clear q307
        try clear q308
        obtain ⟨kq, x14_53, rfl, HA, HJ53, HO_10, HO_297003, HO_297004, HO_297005, BK281, BK296, HB⟩ := hcut
        cases kq with
        | zero => exact absurd HA.out (by simp [interlocutorlaw6_LexMore.j2])
        | succ kj53 =>
         have H := HA.out
         clear HA
         simp only [interlocutorlaw6_LexMore.j2] at H
         obtain ⟨y311, hy311⟩ : ∃ y_ : List (S53), y_ = (([] : List (S53))) := ⟨_, rfl⟩
         replace H : (if y311.length + t287.length < 4398046511104 then ((some (y311 ++ t287 : List (S53))).bind fun y314 => (if y314.length < 4398046511104 then ((lex_Tokens.f t284 t285 t286 t287 t290 t293 t298).bind fun t320 => ((lex_Tokens.f t284 t285 t286 (y314 ++ [(⟨x14_53, 9, 77⟩ : S53)]) t290 t293 t298).bind fun t323 => (interlocutorlaw6_LexMore.l1 kj53 t320 t323 0 0))) else (none))) else (none)) = some r := by first | (rw [hy311]; with_reducible exact H) | (have H2_ := (Option.bind_some _ _).symm.trans H; rw [hy311]; with_reducible exact H2_) | (have H2_ := (Option.bind_some _ _).symm.trans H; with_reducible exact H2_) | with_reducible exact H | (rw [hy311]; exact H) | exact H
         have Ny311 := Aside0.mk hy311
         clear hy311
         by_cases c61 : y311.length + t287.length < 4398046511104
         ·rw [if_pos c61] at H
          have LMc61 := Aside0.mk c61
          clear c61
          obtain ⟨y314, hy314⟩ : ∃ y_ : List (S53), y_ = (y311 ++ t287) := ⟨_, rfl⟩
          replace H : (if y314.length < 4398046511104 then ((lex_Tokens.f t284 t285 t286 t287 t290 t293 t298).bind fun t320 => ((lex_Tokens.f t284 t285 t286 (y314 ++ [(⟨x14_53, 9, 77⟩ : S53)]) t290 t293 t298).bind fun t323 => (interlocutorlaw6_LexMore.l1 kj53 t320 t323 0 0))) else (none)) = some r := by first | (rw [hy314]; with_reducible exact H) | (have H2_ := (Option.bind_some _ _).symm.trans H; rw [hy314]; with_reducible exact H2_) | (have H2_ := (Option.bind_some _ _).symm.trans H; with_reducible exact H2_) | with_reducible exact H | (rw [hy314]; exact H) | exact H
          have Ny314 := Aside0.mk hy314
          clear hy314
          by_cases c62 : y314.length < 4398046511104
          ·rw [if_pos c62] at H
           have LMc62 := Aside0.mk c62
           clear c62
           obtain ⟨y317, hy317⟩ : ∃ y_ : List (S53), y_ = (y314 ++ [(⟨x14_53, 9, 77⟩ : S53)]) := ⟨_, rfl⟩
           replace H : ((lex_Tokens.f t284 t285 t286 t287 t290 t293 t298).bind fun t320 => ((lex_Tokens.f t284 t285 t286 y317 t290 t293 t298).bind fun t323 => (interlocutorlaw6_LexMore.l1 kj53 t320 t323 0 0))) = some r := by first | (rw [hy317]; with_reducible exact H) | (have H2_ := (Option.bind_some _ _).symm.trans H; rw [hy317]; with_reducible exact H2_) | (have H2_ := (Option.bind_some _ _).symm.trans H; with_reducible exact H2_) | with_reducible exact H | (rw [hy317]; exact H) | exact H
           have Ny317 := Aside0.mk hy317
           clear hy317
           replace H := Option.bind_eq_some_iff.mp H
           obtain ⟨t320, A630, H⟩ := H
           replace H : ((lex_Tokens.f t284 t285 t286 y317 t290 t293 t298).bind fun t323 => (interlocutorlaw6_LexMore.l1 kj53 t320 t323 0 0)) = some r := H
           have A63 := Aside0.mk A630
           clear A630
           replace H := Option.bind_eq_some_iff.mp H
           obtain ⟨t323, A640, H⟩ := H
           replace H : (interlocutorlaw6_LexMore.l1 kj53 t320 t323 0 0) = some r := H
           have A64 := Aside0.mk A640
           clear A640
           have H' := Aside0.mk H
           clear H
           have hnb65 := NB296_281.out
           have hnc65 := NB281_296.out
           have hcz66_0 : wc.cell? ⟨gb296, 0, none⟩ = some (.string t284) := (blk_cell BK296.out 0).trans rfl
           have hcz66_1 : wc.cell? ⟨gb296, 1, none⟩ = some (.int .i64 t285) := (blk_cell BK296.out 1).trans rfl
           have hcz66_2 : wc.cell? ⟨gb296, 2, none⟩ = some (.int .i64 t286) := (blk_cell BK296.out 2).trans rfl
           have hcz66_3 : wc.cell? ⟨gb296, 3, none⟩ = some (.slice Ao41 t287.length co41) := (blk_cell BK296.out 3).trans rfl
           have hcz66_4 : wc.cell? ⟨gb296, 4, none⟩ = some (.slice Ao42 t290.length co42) := (blk_cell BK296.out 4).trans rfl
           have hcz66_5 : wc.cell? ⟨gb296, 5, none⟩ = some (.slice Ao43 t293.length co43) := (blk_cell BK296.out 5).trans rfl
           have hfz66_0 := blk_frozen BK296.out 0
           have hfz66_1 := blk_frozen BK296.out 1
           have hfz66_2 := blk_frozen BK296.out 2
           have hfz66_3 := blk_frozen BK296.out 3
           have hfz66_4 := blk_frozen BK296.out 4
           have hfz66_5 := blk_frozen BK296.out 5
           try go_wp2_with (first | ((with_reducible refine gate_dst (N := 16) rfl ?_); (try (refine gate_guard (by rfl) ?_; dsimp only)); refine box_event ?hg (N := 16) ?hd (cs := #[.string (⟨#[]⟩ : ByteArray), .int .i64 0, .int .i64 0, .slice none 0 0, .slice none 0 0, .slice none 0 0]) (t := 32) ?hr ?_; (case hd => rfl); (case hg => rfl); (case hr => first | (go_simp; done) | (go_simp; rfl)); intro gb310 hg w67 hbox hb; have n0_ := Aside0.mk (Kd.R_below (by exact rU HO_10.out) hb); have n1_ := Aside0.mk (Kd.V_below (Kd.V_elderB (by exact vU HO_297003.out) gb310 (Nat.le_of_eq hg.symm)) hb); have n2_ := Aside0.mk (Kd.V_below (Kd.V_elderB (by exact vU HO_297004.out) gb310 (Nat.le_of_eq hg.symm)) hb); have n3_ := Aside0.mk (Kd.V_below (Kd.V_elderB (by exact vU HO_297005.out) gb310 (Nat.le_of_eq hg.symm)) hb); have n4_ := Aside0.mk (blk_below (g := gb281) (o := .cells #[.int .i64 a0_0, .int .i64 a0_1, .int .i64 a0_2, .int .i64 a0_3, .slice A0_4 l0_4.length c0_4, .bool a0_5] 24 (0, 0)) (by (with_reducible repeat (first | refine blk_drewN ?_ _ | refine blk_drew ?_ | refine blk_alloc ?_ _)); exact BK281.out) hb); have n5_ := Aside0.mk (blk_below (g := gb296) (o := .cells #[.string t284, .int .i64 t285, .int .i64 t286, .slice Ao41 t287.length co41, .slice Ao42 t290.length co42, .slice Ao43 t293.length co43] 32 (0, 0)) (by (with_reducible repeat (first | refine blk_drewN ?_ _ | refine blk_drew ?_ | refine blk_alloc ?_ _)); exact BK296.out) hb); have n6_ := Aside0.mk (below_step (by exact wZ HB.out GE281.out GE296.out) hb); have n7_ := Aside0.mk (hbox); have n8_ := Aside0.mk ((by rw [hg]; exact (below_size (by exact wZ HB.out GE281.out GE296.out)) : w.heap.size ≤ gb310)); have n9_ := Aside0.mk ((by rw [hg]; exact (below_size (by exact wZ HB.out GE281.out GE296.out)) : w.heap.size ≤ gb310)); have n10_ := Aside0.mk ((by rw [hg]; exact Nat.ne_of_lt (blk_lt (g := gb281) (o := .cells #[.int .i64 a0_0, .int .i64 a0_1, .int .i64 a0_2, .int .i64 a0_3, .slice A0_4 l0_4.length c0_4, .bool a0_5] 24 (0, 0)) (by (with_reducible repeat (first | refine blk_drewN ?_ _ | refine blk_drew ?_ | refine blk_alloc ?_ _)); exact BK281.out)) : gb281 ≠ gb310)); have n11_ := Aside0.mk ((by rw [hg]; exact Nat.ne_of_gt (blk_lt (g := gb281) (o := .cells #[.int .i64 a0_0, .int .i64 a0_1, .int .i64 a0_2, .int .i64 a0_3, .slice A0_4 l0_4.length c0_4, .bool a0_5] 24 (0, 0)) (by (with_reducible repeat (first | refine blk_drewN ?_ _ | refine blk_drew ?_ | refine blk_alloc ?_ _)); exact BK281.out)) : gb310 ≠ gb281)); have n12_ := Aside0.mk ((by rw [hg]; exact Nat.ne_of_lt (blk_lt (g := gb296) (o := .cells #[.string t284, .int .i64 t285, .int .i64 t286, .slice Ao41 t287.length co41, .slice Ao42 t290.length co42, .slice Ao43 t293.length co43] 32 (0, 0)) (by (with_reducible repeat (first | refine blk_drewN ?_ _ | refine blk_drew ?_ | refine blk_alloc ?_ _)); exact BK296.out)) : gb296 ≠ gb310)); have n13_ := Aside0.mk ((by rw [hg]; exact Nat.ne_of_gt (blk_lt (g := gb296) (o := .cells #[.string t284, .int .i64 t285, .int .i64 t286, .slice Ao41 t287.length co41, .slice Ao42 t290.length co42, .slice Ao43 t293.length co43] 32 (0, 0)) (by (with_reducible repeat (first | refine blk_drewN ?_ _ | refine blk_drew ?_ | refine blk_alloc ?_ _)); exact BK296.out)) : gb310 ≠ gb296)); clear HO_10; clear HO_297003; clear HO_297004; clear HO_297005; clear BK281; clear BK296; clear HB; have HO_10 := n0_; have HO_297003 := n1_; have HO_297004 := n2_; have HO_297005 := n3_; have BK281 := n4_; have BK296 := n5_; have HB := n6_; have BK310 := n7_; have GW310 := n8_; have GE310 := n9_; have NB281_310 := n10_; have NB310_281 := n11_; have NB296_310 := n12_; have NB310_296 := n13_; clear n0_ n1_ n2_ n3_ n4_ n5_ n6_ n7_ n8_ n9_ n10_ n11_ n12_ n13_; clear hb hbox hg; have hnb68 := NB310_281.out; have hnc68 := NB281_310.out; have hnb69 := NB310_296.out; have hnc69 := NB296_310.out; have hcz70_0 : w67.cell? ⟨gb310, 0, none⟩ = some (.string (⟨#[]⟩ : ByteArray)) := (blk_cell BK310.out 0).trans rfl; have hcz70_1 : w67.cell? ⟨gb310, 1, none⟩ = some (.int .i64 0) := (blk_cell BK310.out 1).trans rfl; have hcz70_2 : w67.cell? ⟨gb310, 2, none⟩ = some (.int .i64 0) := (blk_cell BK310.out 2).trans rfl; have hcz70_3 : w67.cell? ⟨gb310, 3, none⟩ = some (.slice none 0 0) := (blk_cell BK310.out 3).trans rfl; have hcz70_4 : w67.cell? ⟨gb310, 4, none⟩ = some (.slice none 0 0) := (blk_cell BK310.out 4).trans rfl; have hcz70_5 : w67.cell? ⟨gb310, 5, none⟩ = some (.slice none 0 0) := (blk_cell BK310.out 5).trans rfl; have hfz70_0 := blk_frozen BK310.out 0; have hfz70_1 := blk_frozen BK310.out 1; have hfz70_2 := blk_frozen BK310.out 2; have hfz70_3 := blk_frozen BK310.out 3; have hfz70_4 := blk_frozen BK310.out 4; have hfz70_5 := blk_frozen BK310.out 5) | ((with_reducible refine gate_dst (N := 86) rfl ?_); (try (refine gate_guard (by rfl) ?_; dsimp only)); refine Kd.R_lit k53 _ 53 ?hg (N := 86) ?hd (xs := ([] : List (S53))) (inner := []) (ok := fun _ => True) (okp := fun _ => True) ?hr ?hp (fun _ hk => hk) trivial (Below.refl _ _) (Nat.le_refl _) (by simp) ?_; (case hd => rfl); (case hg => rfl); (case hr => first | (go_simp; done) | (go_simp; rfl)); (case hp => exact (Reps.none _ _)); intro v312 w71 ho72 hb hg_ hnew_; clear hg_ hnew_; (first | rw [← Ny311.out] at ho72 | (simp only [Int.reduceToNat] at ho72; rw [← Ny311.out] at ho72)); have n0_ := Aside0.mk (Kd.R_below (by exact rU ((Kd.R_mono (Kd.R_far (p := ⟨gb310, 5, none⟩) (Kd.R_far (p := ⟨gb310, 4, none⟩) (Kd.R_far (p := ⟨gb310, 3, none⟩) (Kd.R_far (p := ⟨gb310, 2, none⟩) (Kd.R_far (p := ⟨gb310, 1, none⟩) (Kd.R_far (p := ⟨gb310, 0, none⟩) (Kd.R_types HO_10.out BK310.out (by decide)) (fun _ hk => hk.2) (.string t284)) (fun _ hk => hk.2) (.int .i64 t285)) (fun _ hk => hk.2) (.int .i64 t286)) (fun _ hk => hk.2) (.slice Ao41 t287.length co41)) (fun _ hk => hk.2) (.slice Ao42 t290.length co42)) (fun _ hk => hk.2) (.slice Ao43 t293.length co43)) (fun _ h_ => h_.1)))) hb); have n1_ := Aside0.mk (Kd.V_elder' (by exact vU ((Kd.V_mono (Kd.V_far (p := ⟨gb310, 5, none⟩) (Kd.V_far (p := ⟨gb310, 4, none⟩) (Kd.V_far (p := ⟨gb310, 3, none⟩) (Kd.V_far (p := ⟨gb310, 2, none⟩) (Kd.V_far (p := ⟨gb310, 1, none⟩) (Kd.V_far (p := ⟨gb310, 0, none⟩) (Kd.V_mono HO_297003.out (fun k_ hk => (⟨hk, hk.2⟩ : _ ∧ k_ ≠ gb310))) (fun _ hk => hk.2) (.string t284)) (fun _ hk => hk.2) (.int .i64 t285)) (fun _ hk => hk.2) (.int .i64 t286)) (fun _ hk => hk.2) (.slice Ao41 t287.length co41)) (fun _ hk => hk.2) (.slice Ao42 t290.length co42)) (fun _ hk => hk.2) (.slice Ao43 t293.length co43)) (fun _ h_ => h_.1)))) (Kd.R_base ho72) hb); have n2_ := Aside0.mk (Kd.V_elder' (by exact vU ((Kd.V_mono (Kd.V_far (p := ⟨gb310, 5, none⟩) (Kd.V_far (p := ⟨gb310, 4, none⟩) (Kd.V_far (p := ⟨gb310, 3, none⟩) (Kd.V_far (p := ⟨gb310, 2, none⟩) (Kd.V_far (p := ⟨gb310, 1, none⟩) (Kd.V_far (p := ⟨gb310, 0, none⟩) (Kd.V_mono HO_297004.out (fun k_ hk => (⟨hk, hk.2⟩ : _ ∧ k_ ≠ gb310))) (fun _ hk => hk.2) (.string t284)) (fun _ hk => hk.2) (.int .i64 t285)) (fun _ hk => hk.2) (.int .i64 t286)) (fun _ hk => hk.2) (.slice Ao41 t287.length co41)) (fun _ hk => hk.2) (.slice Ao42 t290.length co42)) (fun _ hk => hk.2) (.slice Ao43 t293.length co43)) (fun _ h_ => h_.1)))) (Kd.R_base ho72) hb); have n3_ := Aside0.mk (Kd.V_elder' (by exact vU ((Kd.V_mono (Kd.V_far (p := ⟨gb310, 5, none⟩) (Kd.V_far (p := ⟨gb310, 4, none⟩) (Kd.V_far (p := ⟨gb310, 3, none⟩) (Kd.V_far (p := ⟨gb310, 2, none⟩) (Kd.V_far (p := ⟨gb310, 1, none⟩) (Kd.V_far (p := ⟨gb310, 0, none⟩) (Kd.V_mono HO_297005.out (fun k_ hk => (⟨hk, hk.2⟩ : _ ∧ k_ ≠ gb310))) (fun _ hk => hk.2) (.string t284)) (fun _ hk => hk.2) (.int .i64 t285)) (fun _ hk => hk.2) (.int .i64 t286)) (fun _ hk => hk.2) (.slice Ao41 t287.length co41)) (fun _ hk => hk.2) (.slice Ao42 t290.length co42)) (fun _ hk => hk.2) (.slice Ao43 t293.length co43)) (fun _ h_ => h_.1)))) (Kd.R_base ho72) hb); have n4_ := Aside0.mk (Kd.R_lower ho72 (below_size (by repeat (first | (with_reducible first | exact HB.out | apply below_alloc | apply pw_below_drewN | apply below_drew1 | refine below_set ?_ GE281.out | refine below_set ?_ GE296.out | refine below_set ?_ GE310.out) | exact HB.out)))); have n5_ := Aside0.mk (blk_below (g := gb281) (o := .cells #[.int .i64 a0_0, .int .i64 a0_1, .int .i64 a0_2, .int .i64 a0_3, .slice A0_4 l0_4.length c0_4, .bool a0_5] 24 (0, 0)) (by (with_reducible repeat (first | refine blk_drewN ?_ _ | refine blk_drew ?_ | refine blk_alloc ?_ _)); refine blk_far ?_ NB281_310.out _; (with_reducible repeat (first | refine blk_drewN ?_ _ | refine blk_drew ?_ | refine blk_alloc ?_ _)); refine blk_far ?_ NB281_310.out _; (with_reducible repeat (first | refine blk_drewN ?_ _ | refine blk_drew ?_ | refine blk_alloc ?_ _)); refine blk_far ?_ NB281_310.out _; (with_reducible repeat (first | refine blk_drewN ?_ _ | refine blk_drew ?_ | refine blk_alloc ?_ _)); refine blk_far ?_ NB281_310.out _; (with_reducible repeat (first | refine blk_drewN ?_ _ | refine blk_drew ?_ | refine blk_alloc ?_ _)); refine blk_far ?_ NB281_310.out _; (with_reducible repeat (first | refine blk_drewN ?_ _ | refine blk_drew ?_ | refine blk_alloc ?_ _)); refine blk_far ?_ NB281_310.out _; (with_reducible repeat (first | refine blk_drewN ?_ _ | refine blk_drew ?_ | refine blk_alloc ?_ _)); exact BK281.out) hb); have n6_ := Aside0.mk (blk_below (g := gb296) (o := .cells #[.string t284, .int .i64 t285, .int .i64 t286, .slice Ao41 t287.length co41, .slice Ao42 t290.length co42, .slice Ao43 t293.length co43] 32 (0, 0)) (by (with_reducible repeat (first | refine blk_drewN ?_ _ | refine blk_drew ?_ | refine blk_alloc ?_ _)); refine blk_far ?_ NB296_310.out _; (with_reducible repeat (first | refine blk_drewN ?_ _ | refine blk_drew ?_ | refine blk_alloc ?_ _)); refine blk_far ?_ NB296_310.out _; (with_reducible repeat (first | refine blk_drewN ?_ _ | refine blk_drew ?_ | refine blk_alloc ?_ _)); refine blk_far ?_ NB296_310.out _; (with_reducible repeat (first | refine blk_drewN ?_ _ | refine blk_drew ?_ | refine blk_alloc ?_ _)); refine blk_far ?_ NB296_310.out _; (with_reducible repeat (first | refine blk_drewN ?_ _ | refine blk_drew ?_ | refine blk_alloc ?_ _)); refine blk_far ?_ NB296_310.out _; (with_reducible repeat (first | refine blk_drewN ?_ _ | refine blk_drew ?_ | refine blk_alloc ?_ _)); refine blk_far ?_ NB296_310.out _; (with_reducible repeat (first | refine blk_drewN ?_ _ | refine blk_drew ?_ | refine blk_alloc ?_ _)); exact BK296.out) hb); have n7_ := Aside0.mk (blk_below (g := gb310) (o := .cells #[.string t284, .int .i64 t285, .int .i64 t286, .slice Ao41 t287.length co41, .slice Ao42 t290.length co42, .slice Ao43 t293.length co43] 32 (0, 0)) (by (with_reducible repeat (first | refine blk_drewN ?_ _ | refine blk_drew ?_ | refine blk_alloc ?_ _)); refine blk_put (cs := #[.string t284, .int .i64 t285, .int .i64 t286, .slice Ao41 t287.length co41, .slice Ao42 t290.length co42, .slice none 0 0]) ?_ 5 _ rfl; (with_reducible repeat (first | refine blk_drewN ?_ _ | refine blk_drew ?_ | refine blk_alloc ?_ _)); refine blk_put (cs := #[.string t284, .int .i64 t285, .int .i64 t286, .slice Ao41 t287.length co41, .slice none 0 0, .slice none 0 0]) ?_ 4 _ rfl; (with_reducible repeat (first | refine blk_drewN ?_ _ | refine blk_drew ?_ | refine blk_alloc ?_ _)); refine blk_put (cs := #[.string t284, .int .i64 t285, .int .i64 t286, .slice none 0 0, .slice none 0 0, .slice none 0 0]) ?_ 3 _ rfl; (with_reducible repeat (first | refine blk_drewN ?_ _ | refine blk_drew ?_ | refine blk_alloc ?_ _)); refine blk_put (cs := #[.string t284, .int .i64 t285, .int .i64 0, .slice none 0 0, .slice none 0 0, .slice none 0 0]) ?_ 2 _ rfl; (with_reducible repeat (first | refine blk_drewN ?_ _ | refine blk_drew ?_ | refine blk_alloc ?_ _)); refine blk_put (cs := #[.string t284, .int .i64 0, .int .i64 0, .slice none 0 0, .slice none 0 0, .slice none 0 0]) ?_ 1 _ rfl; (with_reducible repeat (first | refine blk_drewN ?_ _ | refine blk_drew ?_ | refine blk_alloc ?_ _)); refine blk_put (cs := #[.string (⟨#[]⟩ : ByteArray), .int .i64 0, .int .i64 0, .slice none 0 0, .slice none 0 0, .slice none 0 0]) ?_ 0 _ rfl; (with_reducible repeat (first | refine blk_drewN ?_ _ | refine blk_drew ?_ | refine blk_alloc ?_ _)); exact BK310.out) hb); have n8_ := Aside0.mk (below_step (by repeat (first | (with_reducible first | exact HB.out | apply below_alloc | apply pw_below_drewN | apply below_drew1 | refine below_set ?_ GE281.out | refine below_set ?_ GE296.out | refine below_set ?_ GE310.out) | exact HB.out)) hb); clear HO_10; clear HO_297003; clear HO_297004; clear HO_297005; clear BK281; clear BK296; clear BK310; clear HB; have HO_10 := n0_; have HO_297003 := n1_; have HO_297004 := n2_; have HO_297005 := n3_; have HO313 := n4_; have BK281 := n5_; have BK296 := n6_; have BK310 := n7_; have HB := n8_; clear n0_ n1_ n2_ n3_ n4_ n5_ n6_ n7_ n8_; clear hb ho72; have hcz73_0 : w71.cell? ⟨gb296, 0, none⟩ = some (.string t284) := (blk_cell BK296.out 0).trans rfl; have hcz73_1 : w71.cell? ⟨gb296, 1, none⟩ = some (.int .i64 t285) := (blk_cell BK296.out 1).trans rfl; have hcz73_2 : w71.cell? ⟨gb296, 2, none⟩ = some (.int .i64 t286) := (blk_cell BK296.out 2).trans rfl; have hcz73_3 : w71.cell? ⟨gb296, 3, none⟩ = some (.slice Ao41 t287.length co41) := (blk_cell BK296.out 3).trans rfl; have hcz73_4 : w71.cell? ⟨gb296, 4, none⟩ = some (.slice Ao42 t290.length co42) := (blk_cell BK296.out 4).trans rfl; have hcz73_5 : w71.cell? ⟨gb296, 5, none⟩ = some (.slice Ao43 t293.length co43) := (blk_cell BK296.out 5).trans rfl; have hfz73_0 := blk_frozen BK296.out 0; have hfz73_1 := blk_frozen BK296.out 1; have hfz73_2 := blk_frozen BK296.out 2; have hfz73_3 := blk_frozen BK296.out 3; have hfz73_4 := blk_frozen BK296.out 4; have hfz73_5 := blk_frozen BK296.out 5) | ((with_reducible refine gate_builtin (b := .append) (xs := #[.tmp 86, .tmp 88]) rfl ?_); (try (refine gate_guard (by rfl) ?_; dsimp only)); at_builtin; refine Kd.R_append_rows k53 (w0 := w) w.heap.size rfl (.tmp 86) (.tmp 88) 28 53 (.agg #[(.string ⟨#[]⟩), (.int .i64 0), (.int .i64 0)]) 32 rfl Try.underlying28 info53 rfl (by decide) (by omega) v312 y311 t287 _ _ _ (fun _ => True) (fun _ => False) rfl rfl ?aO ?aR (fun _ _ h => h) (fun _ h => h.elim) ?aF ?aB ?aS ?aL ?_; (case aR => repeat (first | exact (Kd.V_reads' HO_297003.out).2.2 | (with_reducible refine Kd.C_alloc ?_ _) | (with_reducible refine Kd.C_drewN ?_ _) | (with_reducible refine Kd.C_drew ?_))); (case aB => exact (by repeat (first | (with_reducible first | exact HB.out | apply below_alloc | apply pw_below_drewN | apply below_drew1 | refine below_set ?_ GE281.out | refine below_set ?_ GE296.out | refine below_set ?_ GE310.out) | exact HB.out))); (case aF => exact (fun _ _ => trivial)); (case aO => exact (by exact rU HO313.out)); (case aS => exact (below_size (by repeat (first | (with_reducible first | exact HB.out | apply below_alloc | apply pw_below_drewN | apply below_drew1 | refine below_set ?_ GE281.out | refine below_set ?_ GE296.out | refine below_set ?_ GE310.out) | exact HB.out)))); (case aL => have := LMc61.out; omega); intro v315 w74 ho hb hg hat; rw [← Ny314.out] at ho; have n0_ := Aside0.mk (Kd.R_over' (by exact rU HO_10.out) (Kd.R_typed (by exact rU HO313.out)) (by decide) hg); have n1_ := Aside0.mk (Kd.V_afterv (ok := (fun k_ => some k_ ≠ (.slice Ao46 t298.length co46 : Value).ownBlock ∧ k_ ≠ gb281 ∧ k_ ≠ gb296 ∧ k_ ≠ gb310)) (by exact vU (Kd.V_mono HO_297003.out (fun _ hk => ⟨⟨hk.1.1.1, ⟨hk.1.1.2.1, ⟨hk.1.1.2.2, hk.1.2⟩⟩⟩, hk.2⟩))) hg hat); have n2_ := Aside0.mk (Kd.V_afterv (ok := (fun k_ => some k_ ≠ (.slice Ao46 t298.length co46 : Value).ownBlock ∧ k_ ≠ gb281 ∧ k_ ≠ gb296 ∧ k_ ≠ gb310)) (by exact vU (Kd.V_mono HO_297004.out (fun _ hk => ⟨⟨hk.1.1.1, ⟨hk.1.1.2.1, ⟨hk.1.1.2.2, hk.1.2⟩⟩⟩, hk.2⟩))) hg hat); have n3_ := Aside0.mk (Kd.V_afterv (ok := (fun k_ => some k_ ≠ (.slice Ao46 t298.length co46 : Value).ownBlock ∧ k_ ≠ gb281 ∧ k_ ≠ gb296 ∧ k_ ≠ gb310)) (by exact vU (Kd.V_mono HO_297005.out (fun _ hk => ⟨⟨hk.1.1.1, ⟨hk.1.1.2.1, ⟨hk.1.1.2.2, hk.1.2⟩⟩⟩, hk.2⟩))) hg hat); have n4_ := Aside0.mk (blk_grown (g := gb281) (o := .cells #[.int .i64 a0_0, .int .i64 a0_1, .int .i64 a0_2, .int .i64 a0_3, .slice A0_4 l0_4.length c0_4, .bool a0_5] 24 (0, 0)) (by (with_reducible repeat (first | refine blk_drewN ?_ _ | refine blk_drew ?_ | refine blk_alloc ?_ _)); exact BK281.out) hg (Kd.R_ne HO313.out BK281.out (by decide))); have n5_ := Aside0.mk (blk_grown (g := gb296) (o := .cells #[.string t284, .int .i64 t285, .int .i64 t286, .slice Ao41 t287.length co41, .slice Ao42 t290.length co42, .slice Ao43 t293.length co43] 32 (0, 0)) (by (with_reducible repeat (first | refine blk_drewN ?_ _ | refine blk_drew ?_ | refine blk_alloc ?_ _)); exact BK296.out) hg (Kd.R_ne HO313.out BK296.out (by decide))); have n6_ := Aside0.mk (blk_grown (g := gb310) (o := .cells #[.string t284, .int .i64 t285, .int .i64 t286, .slice Ao41 t287.length co41, .slice Ao42 t290.length co42, .slice Ao43 t293.length co43] 32 (0, 0)) (by (with_reducible repeat (first | refine blk_drewN ?_ _ | refine blk_drew ?_ | refine blk_alloc ?_ _)); exact BK310.out) hg (Kd.R_ne HO313.out BK310.out (by decide))); have n7_ := Aside0.mk (hb); have n8_ := Aside0.mk (ho); clear HO_10; clear HO_297003; clear HO_297004; clear HO_297005; clear BK281; clear BK296; clear BK310; clear HB; clear HO313; have HO_10 := n0_; have HO_297003 := n1_; have HO_297004 := n2_; have HO_297005 := n3_; have BK281 := n4_; have BK296 := n5_; have BK310 := n6_; have HB := n7_; have HO316 := n8_; clear n0_ n1_ n2_ n3_ n4_ n5_ n6_ n7_ n8_; clear ho hb hg hat) | ((with_reducible refine gate_builtin (b := .append) (xs := #[.tmp 89, .tmp 92]) rfl ?_); (try (refine gate_guard (by rfl) ?_; dsimp only)); at_builtin; refine Kd.R_append k53 (w0 := w) w.heap.size rfl (.tmp 89) (.tmp 92) 28 53 (.agg #[(.string ⟨#[]⟩), (.int .i64 0), (.int .i64 0)]) 32 rfl Try.underlying28 info53 rfl (by decide) (by omega) v315 y314 (⟨x14_53, 9, 77⟩ : S53) [.string x14_53, .int .i64 9, .int .i64 77] (fun _ => True) (fun _ => False) rfl rfl ?aP (fun _ hk => hk.elim) ?aF ?aO ?aB ?aS ?aL ?_; (case aP => exact k53_mkM _ _ _ (⟨x14_53, 9, 77⟩ : S53)); (case aB => exact (by repeat (first | (with_reducible first | exact HB.out | apply below_alloc | apply pw_below_drewN | apply below_drew1 | refine below_set ?_ GE281.out | refine below_set ?_ GE296.out | refine below_set ?_ GE310.out) | exact HB.out))); (case aF => exact (fun _ _ => trivial)); (case aO => exact (by exact rU HO316.out)); (case aS => exact (below_size (by repeat (first | (with_reducible first | exact HB.out | apply below_alloc | apply pw_below_drewN | apply below_drew1 | refine below_set ?_ GE281.out | refine below_set ?_ GE296.out | refine below_set ?_ GE310.out) | exact HB.out)))); (case aL => have := LMc62.out; omega); intro v318 w75 ho hb hg hat; rw [← Ny317.out] at ho; have n0_ := Aside0.mk (Kd.R_over' (by exact rU HO_10.out) (Kd.R_typed (by exact rU HO316.out)) (by decide) hg); have n1_ := Aside0.mk (Kd.V_afterv (ok := (fun k_ => some k_ ≠ (.slice Ao46 t298.length co46 : Value).ownBlock ∧ k_ ≠ gb281 ∧ k_ ≠ gb296 ∧ k_ ≠ gb310)) (by exact vU HO_297003.out) hg hat); have n2_ := Aside0.mk (Kd.V_afterv (ok := (fun k_ => some k_ ≠ (.slice Ao46 t298.length co46 : Value).ownBlock ∧ k_ ≠ gb281 ∧ k_ ≠ gb296 ∧ k_ ≠ gb310)) (by exact vU HO_297004.out) hg hat); have n3_ := Aside0.mk (Kd.V_afterv (ok := (fun k_ => some k_ ≠ (.slice Ao46 t298.length co46 : Value).ownBlock ∧ k_ ≠ gb281 ∧ k_ ≠ gb296 ∧ k_ ≠ gb310)) (by exact vU HO_297005.out) hg hat); have n4_ := Aside0.mk (blk_grown (g := gb281) (o := .cells #[.int .i64 a0_0, .int .i64 a0_1, .int .i64 a0_2, .int .i64 a0_3, .slice A0_4 l0_4.length c0_4, .bool a0_5] 24 (0, 0)) (by (with_reducible repeat (first | refine blk_drewN ?_ _ | refine blk_drew ?_ | refine blk_alloc ?_ _)); exact BK281.out) hg (Kd.R_ne HO316.out BK281.out (by decide))); have n5_ := Aside0.mk (blk_grown (g := gb296) (o := .cells #[.string t284, .int .i64 t285, .int .i64 t286, .slice Ao41 t287.length co41, .slice Ao42 t290.length co42, .slice Ao43 t293.length co43] 32 (0, 0)) (by (with_reducible repeat (first | refine blk_drewN ?_ _ | refine blk_drew ?_ | refine blk_alloc ?_ _)); exact BK296.out) hg (Kd.R_ne HO316.out BK296.out (by decide))); have n6_ := Aside0.mk (blk_grown (g := gb310) (o := .cells #[.string t284, .int .i64 t285, .int .i64 t286, .slice Ao41 t287.length co41, .slice Ao42 t290.length co42, .slice Ao43 t293.length co43] 32 (0, 0)) (by (with_reducible repeat (first | refine blk_drewN ?_ _ | refine blk_drew ?_ | refine blk_alloc ?_ _)); exact BK310.out) hg (Kd.R_ne HO316.out BK310.out (by decide))); have n7_ := Aside0.mk (hb); have n8_ := Aside0.mk (ho); clear HO_10; clear HO_297003; clear HO_297004; clear HO_297005; clear BK281; clear BK296; clear BK310; clear HB; clear HO316; have HO_10 := n0_; have HO_297003 := n1_; have HO_297004 := n2_; have HO_297005 := n3_; have BK281 := n4_; have BK296 := n5_; have BK310 := n6_; have HB := n7_; have HO319 := n8_; clear n0_ n1_ n2_ n3_ n4_ n5_ n6_ n7_ n8_; clear ho hb hg hat; obtain ⟨Ao76, co76, eo76⟩ := Kd.R_slice HO319.out; subst eo76; have hcz77_0 : w75.cell? ⟨gb310, 0, none⟩ = some (.string t284) := (blk_cell BK310.out 0).trans rfl; have hcz77_1 : w75.cell? ⟨gb310, 1, none⟩ = some (.int .i64 t285) := (blk_cell BK310.out 1).trans rfl; have hcz77_2 : w75.cell? ⟨gb310, 2, none⟩ = some (.int .i64 t286) := (blk_cell BK310.out 2).trans rfl; have hcz77_3 : w75.cell? ⟨gb310, 3, none⟩ = some (.slice Ao41 t287.length co41) := (blk_cell BK310.out 3).trans rfl; have hcz77_4 : w75.cell? ⟨gb310, 4, none⟩ = some (.slice Ao42 t290.length co42) := (blk_cell BK310.out 4).trans rfl; have hcz77_5 : w75.cell? ⟨gb310, 5, none⟩ = some (.slice Ao43 t293.length co43) := (blk_cell BK310.out 5).trans rfl; have hfz77_0 := blk_frozen BK310.out 0; have hfz77_1 := blk_frozen BK310.out 1; have hfz77_2 := blk_frozen BK310.out 2; have hfz77_3 := blk_frozen BK310.out 3; have hfz77_4 := blk_frozen BK310.out 4; have hfz77_5 := blk_frozen BK310.out 5))
           have n0_ : Aside0 (Kd.R (Kd.int .i64) 3 (w75.setCell ⟨gb310, 3, none⟩ (.slice Ao76 y317.length co76)) w.heap.size (fun _ => True) (.slice Ao46 t298.length co46) t298) := ⟨by exact rU (Kd.R_mono (Kd.R_far (p := ⟨gb310, 3, none⟩) (Kd.R_types HO_10.out BK310.out (by decide)) (fun _ hk => hk.2) (.slice Ao76 y317.length co76)) (fun _ hk => trivial))⟩
           have n1_ : Aside0 (Kd.V k53 53 (w75.setCell ⟨gb310, 3, none⟩ (.slice Ao76 y317.length co76)) w.heap.size (fun k_ => some k_ ≠ (.slice Ao46 t298.length co46 : Value).ownBlock ∧ some k_ ≠ (.slice Ao76 y317.length co76 : Value).ownBlock ∧ k_ ≠ gb281 ∧ k_ ≠ gb296 ∧ k_ ≠ gb310) (.slice Ao41 t287.length co41) t287) := ⟨by exact vU (Kd.V_mono (Kd.V_far (p := ⟨gb310, 3, none⟩) (Kd.V_mono HO_297003.out (fun k_ hk => (⟨hk, hk.1.2.2.2⟩ : _ ∧ k_ ≠ gb310))) (fun _ hk => hk.2) (.slice Ao76 y317.length co76)) (fun _ hk => ⟨hk.1.1.1, ⟨hk.1.2, ⟨hk.1.1.2.1, ⟨hk.1.1.2.2.1, hk.1.1.2.2.2⟩⟩⟩⟩))⟩
           have n2_ : Aside0 (Kd.V k108 108 (w75.setCell ⟨gb310, 3, none⟩ (.slice Ao76 y317.length co76)) w.heap.size (fun k_ => some k_ ≠ (.slice Ao46 t298.length co46 : Value).ownBlock ∧ some k_ ≠ (.slice Ao76 y317.length co76 : Value).ownBlock ∧ k_ ≠ gb281 ∧ k_ ≠ gb296 ∧ k_ ≠ gb310) (.slice Ao42 t290.length co42) t290) := ⟨by exact vU (Kd.V_mono (Kd.V_far (p := ⟨gb310, 3, none⟩) (Kd.V_mono HO_297004.out (fun k_ hk => (⟨hk, hk.1.2.2.2⟩ : _ ∧ k_ ≠ gb310))) (fun _ hk => hk.2) (.slice Ao76 y317.length co76)) (fun _ hk => ⟨hk.1.1.1, ⟨hk.1.2, ⟨hk.1.1.2.1, ⟨hk.1.1.2.2.1, hk.1.1.2.2.2⟩⟩⟩⟩))⟩
           have n3_ : Aside0 (Kd.V k138 138 (w75.setCell ⟨gb310, 3, none⟩ (.slice Ao76 y317.length co76)) w.heap.size (fun k_ => some k_ ≠ (.slice Ao46 t298.length co46 : Value).ownBlock ∧ some k_ ≠ (.slice Ao76 y317.length co76 : Value).ownBlock ∧ k_ ≠ gb281 ∧ k_ ≠ gb296 ∧ k_ ≠ gb310) (.slice Ao43 t293.length co43) t293) := ⟨by exact vU (Kd.V_mono (Kd.V_far (p := ⟨gb310, 3, none⟩) (Kd.V_mono HO_297005.out (fun k_ hk => (⟨hk, hk.1.2.2.2⟩ : _ ∧ k_ ≠ gb310))) (fun _ hk => hk.2) (.slice Ao76 y317.length co76)) (fun _ hk => ⟨hk.1.1.1, ⟨hk.1.2, ⟨hk.1.1.2.1, ⟨hk.1.1.2.2.1, hk.1.1.2.2.2⟩⟩⟩⟩))⟩
           have n4_ : Aside0 (Kd.R k53 53 (w75.setCell ⟨gb310, 3, none⟩ (.slice Ao76 y317.length co76)) w.heap.size (fun _ => True) (.slice Ao76 y317.length co76) y317) := ⟨by exact rU (Kd.R_mono (Kd.R_far (p := ⟨gb310, 3, none⟩) (Kd.R_types HO319.out BK310.out (by decide)) (fun _ hk => hk.2) (.slice Ao76 y317.length co76)) (fun _ hk => trivial))⟩
           have n5_ : Aside0 ((w75.setCell ⟨gb310, 3, none⟩ (.slice Ao76 y317.length co76)).heap[gb281]? = some (.cells #[.int .i64 a0_0, .int .i64 a0_1, .int .i64 a0_2, .int .i64 a0_3, .slice A0_4 l0_4.length c0_4, .bool a0_5] 24 (0, 0))) := ⟨by (with_reducible repeat (first | refine blk_drewN ?_ _ | refine blk_drew ?_ | refine blk_alloc ?_ _)); refine blk_far ?_ NB281_310.out _; (with_reducible repeat (first | refine blk_drewN ?_ _ | refine blk_drew ?_ | refine blk_alloc ?_ _)); exact BK281.out⟩
           have n6_ : Aside0 ((w75.setCell ⟨gb310, 3, none⟩ (.slice Ao76 y317.length co76)).heap[gb296]? = some (.cells #[.string t284, .int .i64 t285, .int .i64 t286, .slice Ao41 t287.length co41, .slice Ao42 t290.length co42, .slice Ao43 t293.length co43] 32 (0, 0))) := ⟨by (with_reducible repeat (first | refine blk_drewN ?_ _ | refine blk_drew ?_ | refine blk_alloc ?_ _)); refine blk_far ?_ NB296_310.out _; (with_reducible repeat (first | refine blk_drewN ?_ _ | refine blk_drew ?_ | refine blk_alloc ?_ _)); exact BK296.out⟩
           have n7_ : Aside0 ((w75.setCell ⟨gb310, 3, none⟩ (.slice Ao76 y317.length co76)).heap[gb310]? = some (.cells #[.string t284, .int .i64 t285, .int .i64 t286, .slice Ao76 y317.length co76, .slice Ao42 t290.length co42, .slice Ao43 t293.length co43] 32 (0, 0))) := ⟨by (with_reducible repeat (first | refine blk_drewN ?_ _ | refine blk_drew ?_ | refine blk_alloc ?_ _)); refine blk_put (cs := #[.string t284, .int .i64 t285, .int .i64 t286, .slice Ao41 t287.length co41, .slice Ao42 t290.length co42, .slice Ao43 t293.length co43]) ?_ 3 _ rfl; (with_reducible repeat (first | refine blk_drewN ?_ _ | refine blk_drew ?_ | refine blk_alloc ?_ _)); exact BK310.out⟩
           have n8_ : Aside0 (Below w.heap.size w (w75.setCell ⟨gb310, 3, none⟩ (.slice Ao76 y317.length co76))) := ⟨by repeat (first | (with_reducible first | exact HB.out | apply below_alloc | apply pw_below_drewN | apply below_drew1 | refine below_set ?_ GE281.out | refine below_set ?_ GE296.out | refine below_set ?_ GE310.out) | exact HB.out)⟩
           (try clear HO_10)
           (try clear HO_297003)
           (try clear HO_297004)
           (try clear HO_297005)
           (try clear HO319)
           (try clear BK281)
           (try clear BK296)
           (try clear BK310)
           (try clear HB)
           generalize (w75.setCell ⟨gb310, 3, none⟩ (.slice Ao76 y317.length co76)) = w78 at n0_ n1_ n2_ n3_ n4_ n5_ n6_ n7_ n8_ ⊢
           have HO_10 := n0_
           have HO_297003 := n1_
           have HO_297004 := n2_
           have HO_297005 := n3_
           have HO319 := n4_
           have BK281 := n5_
           have BK296 := n6_
           have BK310 := n7_
           have HB := n8_
           clear n0_ n1_ n2_ n3_ n4_ n5_ n6_ n7_ n8_
           have n0_ := Aside0.mk (Kd.R_drew HO_10.out)
           have n1_ := Aside0.mk (Kd.V_drew HO_297003.out)
           have n2_ := Aside0.mk (Kd.V_drew HO_297004.out)
           have n3_ := Aside0.mk (Kd.V_drew HO_297005.out)
           have n4_ := Aside0.mk (Kd.R_drew HO319.out)
           have n5_ := Aside0.mk (blk_drew BK281.out)
           have n6_ := Aside0.mk (blk_drew BK296.out)
           have n7_ := Aside0.mk (blk_drew BK310.out)
           have n8_ := Aside0.mk (below_drew1 HB.out)
           clear HO_10 HO_297003 HO_297004 HO_297005 HO319 BK281 BK296 BK310 HB
           have HO_10 := n0_
           have HO_297003 := n1_
           have HO_297004 := n2_
           have HO_297005 := n3_
           have HO319 := n4_
           have BK281 := n5_
           have BK296 := n6_
           have BK310 := n7_
           have HB := n8_
           clear n0_ n1_ n2_ n3_ n4_ n5_ n6_ n7_ n8_
           refine start_ (n := 8) (S := fun w' => w'.cell? ⟨gb296, 0, none⟩ = some (.string t284) ∧ w'.cell? ⟨gb296, 1, none⟩ = some (.int .i64 t285) ∧ w'.cell? ⟨gb296, 2, none⟩ = some (.int .i64 t286) ∧ w'.cell? ⟨gb296, 3, none⟩ = some (.slice Ao41 t287.length co41) ∧ w'.cell? ⟨gb296, 4, none⟩ = some (.slice Ao42 t290.length co42) ∧ w'.cell? ⟨gb296, 5, none⟩ = some (.slice Ao43 t293.length co43) ∧ w'.cell? ⟨gb310, 0, none⟩ = some (.string t284) ∧ w'.cell? ⟨gb310, 1, none⟩ = some (.int .i64 t285) ∧ w'.cell? ⟨gb310, 2, none⟩ = some (.int .i64 t286) ∧ w'.cell? ⟨gb310, 3, none⟩ = some (.slice Ao76 y317.length co76) ∧ w'.cell? ⟨gb310, 4, none⟩ = some (.slice Ao42 t290.length co42) ∧ w'.cell? ⟨gb310, 5, none⟩ = some (.slice Ao43 t293.length co43)) (ds := []) #[false, false, false, false, false, false, false, false] (by kernel_rfl) rfl rfl ⟨(blk_cell BK296.out 0).trans rfl, (blk_cell BK296.out 1).trans rfl, (blk_cell BK296.out 2).trans rfl, (blk_cell BK296.out 3).trans rfl, (blk_cell BK296.out 4).trans rfl, (blk_cell BK296.out 5).trans rfl, (blk_cell BK310.out 0).trans rfl, (blk_cell BK310.out 1).trans rfl, (blk_cell BK310.out 2).trans rfl, (blk_cell BK310.out 3).trans rfl, (blk_cell BK310.out 4).trans rfl, (blk_cell BK310.out 5).trans rfl⟩ (fun hHeld => ?_); refine with_tabW interlocutorlaw6_LexMore.tab20 interlocutorlaw6_LexMore.bits20 (fun HT_ HW_ => ?_)
           generalize w78.drew = w79 at HO_10 HO_297003 HO_297004 HO_297005 HO319 BK281 BK296 BK310 HB hHeld ⊢
           refine pU HT_ 1 (some 96) (oB 8 2) ?_
           refine pU HT_ 4 (some 99) (oB 8 18) ?_
           refine take_ (i := 0) (N := some 95) (v := ?_) (a' := ?_) (oB 8 19) rfl rfl (take_ofW HT_.out HW_.out (by kernel_rfl)) (fun _ _ _ h => h) (Or.inl ⟨by rfl, ?_⟩) hHeld ?_ ?_
           rotate_left
           ·rintro w' ⟨s0, s1, s2, s3, s4, s5, s6, s7, s8, s9, s10, s11⟩
            go_simp
            with_reducible rfl
           rotate_left
           ·simp only [Act.put, List.setIfInBounds_toArray, List.set_cons_zero, List.set_cons_succ, i64_w, i32_w]
            rfl
           refine take_ (i := 3) (N := some 98) (v := ?_) (a' := ?_) (oB 8 27) rfl rfl (take_ofW HT_.out HW_.out (by kernel_rfl)) (fun _ _ _ h => h) (Or.inl ⟨by rfl, ?_⟩) hHeld ?_ ?_
           rotate_left
           ·rintro w' ⟨s0, s1, s2, s3, s4, s5, s6, s7, s8, s9, s10, s11⟩
            go_simp
            with_reducible rfl
           rotate_left
           ·simp only [Act.put, List.setIfInBounds_toArray, List.set_cons_zero, List.set_cons_succ, i64_w, i32_w]
            rfl
           refine one_ (i := 2) (N := some 97) (oB 8 31) rfl rfl (one_of HT_.out (by kernel_rfl)) (by decide) (fun K hK => ?_)
           refine goes_ Try.func20 (by kernel_rfl) rfl #[.agg #[.string t284, .int .i64 t285, .int .i64 t286, .slice Ao41 t287.length co41, .slice Ao42 t290.length co42, .slice Ao43 t293.length co43], .slice Ao46 t298.length co46] (by rfl) rfl rfl (by (try simp only [List.map_toArray, List.map_cons, List.map_nil]); first | done | rfl | (simp only [List.length_drop, List.length_take]; rfl)) ?_
           with_reducible refine (lex_Tokens.calls t284 t285 t286 _ _ t287 _ _ t290 _ _ t293 _ _ t298 t320 _ ?side1 ?side2 ?side3 ?side4 ?side5 ?side6 ?side7 ?side8 A63.out).mono ?_
           (case side1 => repeat (first | exact (Kd.V_reads' HO_297003.out).2.2 | (with_reducible refine Kd.C_alloc ?_ _) | (with_reducible refine Kd.C_drewN ?_ _) | (with_reducible refine Kd.C_drew ?_)))
           (case side2 => exact (Kd.V_reads' HO_297003.out).2.1)
           (case side3 => repeat (first | exact (Kd.V_reads' HO_297004.out).2.2 | (with_reducible refine Kd.C_alloc ?_ _) | (with_reducible refine Kd.C_drewN ?_ _) | (with_reducible refine Kd.C_drew ?_)))
           (case side4 => exact (Kd.V_reads' HO_297004.out).2.1)
           (case side5 => repeat (first | exact (Kd.V_reads' HO_297005.out).2.2 | (with_reducible refine Kd.C_alloc ?_ _) | (with_reducible refine Kd.C_drewN ?_ _) | (with_reducible refine Kd.C_drew ?_)))
           (case side6 => exact (Kd.V_reads' HO_297005.out).2.1)
           (case side7 => repeat (first | exact (Kd.R_reads' HO_10.out).2.2 | (with_reducible refine Kd.C_alloc ?_ _) | (with_reducible refine Kd.C_drewN ?_ _) | (with_reducible refine Kd.C_drew ?_)))
           (case side8 => exact (Kd.R_reads' HO_10.out).2.1)
           rintro e w80 ⟨v321, rfl, ho0, hb⟩
           refine ⟨_, rfl, ?_⟩
           have n0_ := Aside0.mk (Kd.R_below (by exact rU HO_10.out) hb)
           have n1_ := Aside0.mk (Kd.V_elder' (by exact vU HO_297003.out) (Kd.R_base ho0) hb)
           have n2_ := Aside0.mk (Kd.V_elder' (by exact vU HO_297004.out) (Kd.R_base ho0) hb)
           have n3_ := Aside0.mk (Kd.V_elder' (by exact vU HO_297005.out) (Kd.R_base ho0) hb)
           have n4_ := Aside0.mk (Kd.R_below (by exact rU HO319.out) hb)
           have n5_ := Aside0.mk (Kd.R_lower ho0 (below_size (by repeat (first | (with_reducible first | exact HB.out | apply below_alloc | apply pw_below_drewN | apply below_drew1 | refine below_set ?_ GE281.out | refine below_set ?_ GE296.out | refine below_set ?_ GE310.out) | exact HB.out))))
           have n6_ := Aside0.mk (blk_below (g := gb281) (o := .cells #[.int .i64 a0_0, .int .i64 a0_1, .int .i64 a0_2, .int .i64 a0_3, .slice A0_4 l0_4.length c0_4, .bool a0_5] 24 (0, 0)) (by (with_reducible repeat (first | refine blk_drewN ?_ _ | refine blk_drew ?_ | refine blk_alloc ?_ _)); exact BK281.out) hb)
           have n7_ := Aside0.mk (blk_below (g := gb296) (o := .cells #[.string t284, .int .i64 t285, .int .i64 t286, .slice Ao41 t287.length co41, .slice Ao42 t290.length co42, .slice Ao43 t293.length co43] 32 (0, 0)) (by (with_reducible repeat (first | refine blk_drewN ?_ _ | refine blk_drew ?_ | refine blk_alloc ?_ _)); exact BK296.out) hb)
           have n8_ := Aside0.mk (blk_below (g := gb310) (o := .cells #[.string t284, .int .i64 t285, .int .i64 t286, .slice Ao76 y317.length co76, .slice Ao42 t290.length co42, .slice Ao43 t293.length co43] 32 (0, 0)) (by (with_reducible repeat (first | refine blk_drewN ?_ _ | refine blk_drew ?_ | refine blk_alloc ?_ _)); exact BK310.out) hb)
           have n9_ := Aside0.mk (below_step (by repeat (first | (with_reducible first | exact HB.out | apply below_alloc | apply pw_below_drewN | apply below_drew1 | refine below_set ?_ GE281.out | refine below_set ?_ GE296.out | refine below_set ?_ GE310.out) | exact HB.out)) hb)
           clear HO_10 HO_297003 HO_297004 HO_297005 HO319 BK281 BK296 BK310 HB
           have HO_10 := n0_
           have HO_297003 := n1_
           have HO_297004 := n2_
           have HO_297005 := n3_
           have HO319 := n4_
           have HO322 := n5_
           have BK281 := n6_
           have BK296 := n7_
           have BK310 := n8_
           have HB := n9_
           clear n0_ n1_ n2_ n3_ n4_ n5_ n6_ n7_ n8_ n9_
           (try clear hb)
           (try clear hb2)
           (try clear hk)
           (try clear hi)
           (try clear ho0)
           refine hK.out _ _ ⟨(blk_cell BK296.out 0).trans rfl, (blk_cell BK296.out 1).trans rfl, (blk_cell BK296.out 2).trans rfl, (blk_cell BK296.out 3).trans rfl, (blk_cell BK296.out 4).trans rfl, (blk_cell BK296.out 5).trans rfl, (blk_cell BK310.out 0).trans rfl, (blk_cell BK310.out 1).trans rfl, (blk_cell BK310.out 2).trans rfl, (blk_cell BK310.out 3).trans rfl, (blk_cell BK310.out 4).trans rfl, (blk_cell BK310.out 5).trans rfl⟩ (fun hHeld => ?_)
           clear hK K
           refine nM ?_
           refine one_ (i := 5) (N := some 100) (oB 8 63) rfl rfl (one_of HT_.out (by kernel_rfl)) (by decide) (fun K hK => ?_)
           refine goes_ Try.func20 (by kernel_rfl) rfl #[.agg #[.string t284, .int .i64 t285, .int .i64 t286, .slice Ao76 y317.length co76, .slice Ao42 t290.length co42, .slice Ao43 t293.length co43], .slice Ao46 t298.length co46] (by rfl) rfl rfl (by (try simp only [List.map_toArray, List.map_cons, List.map_nil]); first | done | rfl | (simp only [List.length_drop, List.length_take]; rfl)) ?_
           with_reducible refine (lex_Tokens.calls t284 t285 t286 _ _ y317 _ _ t290 _ _ t293 _ _ t298 t323 _ ?side1 ?side2 ?side3 ?side4 ?side5 ?side6 ?side7 ?side8 A64.out).mono ?_
           (case side1 => repeat (first | exact (Kd.R_reads' HO319.out).2.2 | (with_reducible refine Kd.C_alloc ?_ _) | (with_reducible refine Kd.C_drewN ?_ _) | (with_reducible refine Kd.C_drew ?_)))
           (case side2 => exact (Kd.R_reads' HO319.out).2.1)
           (case side3 => repeat (first | exact (Kd.V_reads' HO_297004.out).2.2 | (with_reducible refine Kd.C_alloc ?_ _) | (with_reducible refine Kd.C_drewN ?_ _) | (with_reducible refine Kd.C_drew ?_)))
           (case side4 => exact (Kd.V_reads' HO_297004.out).2.1)
           (case side5 => repeat (first | exact (Kd.V_reads' HO_297005.out).2.2 | (with_reducible refine Kd.C_alloc ?_ _) | (with_reducible refine Kd.C_drewN ?_ _) | (with_reducible refine Kd.C_drew ?_)))
           (case side6 => exact (Kd.V_reads' HO_297005.out).2.1)
           (case side7 => repeat (first | exact (Kd.R_reads' HO_10.out).2.2 | (with_reducible refine Kd.C_alloc ?_ _) | (with_reducible refine Kd.C_drewN ?_ _) | (with_reducible refine Kd.C_drew ?_)))
           (case side8 => exact (Kd.R_reads' HO_10.out).2.1)
           rintro e w81 ⟨v324, rfl, ho0, hb⟩
           refine ⟨_, rfl, ?_⟩
           have n0_ := Aside0.mk (Kd.R_below (by exact rU HO_10.out) hb)
           have n1_ := Aside0.mk (Kd.V_elder' (by exact vU HO_297003.out) (Kd.R_base ho0) hb)
           have n2_ := Aside0.mk (Kd.V_elder' (by exact vU HO_297004.out) (Kd.R_base ho0) hb)
           have n3_ := Aside0.mk (Kd.V_elder' (by exact vU HO_297005.out) (Kd.R_base ho0) hb)
           have n4_ := Aside0.mk (Kd.R_below (by exact rU HO319.out) hb)
           have n5_ := Aside0.mk (Kd.R_elder' (by exact rU HO322.out) (Kd.R_base ho0) hb)
           have n6_ := Aside0.mk (Kd.R_lower (Kd.R_new' ho0 (Kd.R_lt (by exact rU HO322.out))) (below_size (by repeat (first | (with_reducible first | exact HB.out | apply below_alloc | apply pw_below_drewN | apply below_drew1 | refine below_set ?_ GE281.out | refine below_set ?_ GE296.out | refine below_set ?_ GE310.out) | exact HB.out))))
           have n7_ := Aside0.mk (blk_below (g := gb281) (o := .cells #[.int .i64 a0_0, .int .i64 a0_1, .int .i64 a0_2, .int .i64 a0_3, .slice A0_4 l0_4.length c0_4, .bool a0_5] 24 (0, 0)) (by (with_reducible repeat (first | refine blk_drewN ?_ _ | refine blk_drew ?_ | refine blk_alloc ?_ _)); exact BK281.out) hb)
           have n8_ := Aside0.mk (blk_below (g := gb296) (o := .cells #[.string t284, .int .i64 t285, .int .i64 t286, .slice Ao41 t287.length co41, .slice Ao42 t290.length co42, .slice Ao43 t293.length co43] 32 (0, 0)) (by (with_reducible repeat (first | refine blk_drewN ?_ _ | refine blk_drew ?_ | refine blk_alloc ?_ _)); exact BK296.out) hb)
           have n9_ := Aside0.mk (blk_below (g := gb310) (o := .cells #[.string t284, .int .i64 t285, .int .i64 t286, .slice Ao76 y317.length co76, .slice Ao42 t290.length co42, .slice Ao43 t293.length co43] 32 (0, 0)) (by (with_reducible repeat (first | refine blk_drewN ?_ _ | refine blk_drew ?_ | refine blk_alloc ?_ _)); exact BK310.out) hb)
           have n10_ := Aside0.mk (below_step (by repeat (first | (with_reducible first | exact HB.out | apply below_alloc | apply pw_below_drewN | apply below_drew1 | refine below_set ?_ GE281.out | refine below_set ?_ GE296.out | refine below_set ?_ GE310.out) | exact HB.out)) hb)
           clear HO_10 HO_297003 HO_297004 HO_297005 HO319 HO322 BK281 BK296 BK310 HB
           have HO_10 := n0_
           have HO_297003 := n1_
           have HO_297004 := n2_
           have HO_297005 := n3_
           have HO319 := n4_
           have HO322 := n5_
           have HO325 := n6_
           have BK281 := n7_
           have BK296 := n8_
           have BK310 := n9_
           have HB := n10_
           clear n0_ n1_ n2_ n3_ n4_ n5_ n6_ n7_ n8_ n9_ n10_
           (try clear hb)
           (try clear hb2)
           (try clear hk)
           (try clear hi)
           (try clear ho0)
           refine hK.out _ _ ⟨(blk_cell BK296.out 0).trans rfl, (blk_cell BK296.out 1).trans rfl, (blk_cell BK296.out 2).trans rfl, (blk_cell BK296.out 3).trans rfl, (blk_cell BK296.out 4).trans rfl, (blk_cell BK296.out 5).trans rfl, (blk_cell BK310.out 0).trans rfl, (blk_cell BK310.out 1).trans rfl, (blk_cell BK310.out 2).trans rfl, (blk_cell BK310.out 3).trans rfl, (blk_cell BK310.out 4).trans rfl, (blk_cell BK310.out 5).trans rfl⟩ (fun hHeld => ?_)
           clear hK K
           refine nM ?_
           refine pU HT_ 6 (some 17) (oB 8 127) ?_
           refine pU HT_ 7 (some 18) (oB 8 255) ?_
           refine done_ (done_of HT_.out (by kernel_rfl)) ?_
           try go_wp2
           go_loopg [19, 20] kj53 (fun kq v19 v20 w' => ∃ (x19_3 : Int) (x20_3 : Int), v19 = .int .i64 x19_3 ∧ v20 = .int .i64 x20_3 ∧ Aside0 (interlocutorlaw6_LexMore.l1 kq t320 t323 x19_3 x20_3 = some r) ∧ Aside0 (kq ≤ kj53) ∧ Aside0 (Kd.R k47 47 w' w.heap.size (fun k_ => some k_ ≠ (v324 : Value).ownBlock) v321 t320) ∧ Aside0 (Kd.R k47 47 w' w.heap.size (fun k_ => some k_ ≠ (v321 : Value).ownBlock) v324 t323) ∧ Aside0 (Kd.V k53 53 w' w.heap.size (fun k_ => some k_ ≠ (v321 : Value).ownBlock ∧ some k_ ≠ (v324 : Value).ownBlock ∧ some k_ ≠ ((.slice Ao76 y317.length co76) : Value).ownBlock ∧ k_ ≠ gb281 ∧ k_ ≠ gb296 ∧ k_ ≠ gb310) (.slice Ao41 t287.length co41) t287) ∧ Aside0 (Kd.V k108 108 w' w.heap.size (fun k_ => some k_ ≠ (v321 : Value).ownBlock ∧ some k_ ≠ (v324 : Value).ownBlock ∧ some k_ ≠ ((.slice Ao76 y317.length co76) : Value).ownBlock ∧ k_ ≠ gb281 ∧ k_ ≠ gb296 ∧ k_ ≠ gb310) (.slice Ao42 t290.length co42) t290) ∧ Aside0 (Kd.V k138 138 w' w.heap.size (fun k_ => some k_ ≠ (v321 : Value).ownBlock ∧ some k_ ≠ (v324 : Value).ownBlock ∧ some k_ ≠ ((.slice Ao76 y317.length co76) : Value).ownBlock ∧ k_ ≠ gb281 ∧ k_ ≠ gb296 ∧ k_ ≠ gb310) (.slice Ao43 t293.length co43) t293) ∧ Aside0 (Kd.R k53 53 w' w.heap.size (fun _ => True) (.slice Ao76 y317.length co76) y317) ∧ Aside0 (Kd.V k108 108 w' w.heap.size (fun k_ => some k_ ≠ (v321 : Value).ownBlock ∧ some k_ ≠ (v324 : Value).ownBlock ∧ some k_ ≠ ((.slice Ao76 y317.length co76) : Value).ownBlock ∧ k_ ≠ gb281 ∧ k_ ≠ gb296 ∧ k_ ≠ gb310) (.slice Ao42 t290.length co42) t290) ∧ Aside0 (Kd.V k138 138 w' w.heap.size (fun k_ => some k_ ≠ (v321 : Value).ownBlock ∧ some k_ ≠ (v324 : Value).ownBlock ∧ some k_ ≠ ((.slice Ao76 y317.length co76) : Value).ownBlock ∧ k_ ≠ gb281 ∧ k_ ≠ gb296 ∧ k_ ≠ gb310) (.slice Ao43 t293.length co43) t293) ∧ Aside0 (w'.heap[gb281]? = some (.cells #[.int .i64 a0_0, .int .i64 a0_1, .int .i64 a0_2, .int .i64 a0_3, (.slice A0_4 l0_4.length c0_4), .bool a0_5] 24 (0, 0))) ∧ Aside0 (w'.heap[gb296]? = some (.cells #[.string t284, .int .i64 t285, .int .i64 t286, (.slice Ao41 t287.length co41), (.slice Ao42 t290.length co42), (.slice Ao43 t293.length co43)] 32 (0, 0))) ∧ Aside0 (w'.heap[gb310]? = some (.cells #[.string t284, .int .i64 t285, .int .i64 t286, (.slice Ao76 y317.length co76), (.slice Ao42 t290.length co42), (.slice Ao43 t293.length co43)] 32 (0, 0))) ∧ Aside0 (Below w.heap.size w w'))
           case atStart => exact ⟨(0), (0), (by first | rfl | (simp; done) | (simp [*]; done)), (by first | rfl | (simp; done) | (simp [*]; done)), H', ⟨Nat.le_refl _⟩, ⟨by exact rU (Kd.R_mono HO322.out (fun _ hk => hk.2))⟩, ⟨by exact rU (Kd.R_mono HO325.out (fun _ hk => hk.2))⟩, ⟨by exact vU (Kd.V_mono HO_297003.out (fun _ hk => ⟨hk.1.2, ⟨hk.2, ⟨hk.1.1.2.1, ⟨hk.1.1.2.2.1, ⟨hk.1.1.2.2.2.1, hk.1.1.2.2.2.2⟩⟩⟩⟩⟩))⟩, ⟨by exact vU (Kd.V_mono HO_297004.out (fun _ hk => ⟨hk.1.2, ⟨hk.2, ⟨hk.1.1.2.1, ⟨hk.1.1.2.2.1, ⟨hk.1.1.2.2.2.1, hk.1.1.2.2.2.2⟩⟩⟩⟩⟩))⟩, ⟨by exact vU (Kd.V_mono HO_297005.out (fun _ hk => ⟨hk.1.2, ⟨hk.2, ⟨hk.1.1.2.1, ⟨hk.1.1.2.2.1, ⟨hk.1.1.2.2.2.1, hk.1.1.2.2.2.2⟩⟩⟩⟩⟩))⟩, ⟨by exact rU HO319.out⟩, ⟨by exact vU (Kd.V_mono HO_297004.out (fun _ hk => ⟨hk.1.2, ⟨hk.2, ⟨hk.1.1.2.1, ⟨hk.1.1.2.2.1, ⟨hk.1.1.2.2.2.1, hk.1.1.2.2.2.2⟩⟩⟩⟩⟩))⟩, ⟨by exact vU (Kd.V_mono HO_297005.out (fun _ hk => ⟨hk.1.2, ⟨hk.2, ⟨hk.1.1.2.1, ⟨hk.1.1.2.2.1, ⟨hk.1.1.2.2.2.1, hk.1.1.2.2.2.2⟩⟩⟩⟩⟩))⟩, ⟨by (with_reducible repeat (first | refine blk_drewN ?_ _ | refine blk_drew ?_ | refine blk_alloc ?_ _)); exact BK281.out⟩, ⟨by (with_reducible repeat (first | refine blk_drewN ?_ _ | refine blk_drew ?_ | refine blk_alloc ?_ _)); exact BK296.out⟩, ⟨by (with_reducible repeat (first | refine blk_drewN ?_ _ | refine blk_drew ?_ | refine blk_alloc ?_ _)); exact BK310.out⟩, ⟨by repeat (first | (with_reducible first | exact HB.out | apply below_alloc | apply pw_below_drewN | apply below_drew1 | refine below_set ?_ GE281.out | refine below_set ?_ GE296.out | refine below_set ?_ GE310.out) | exact HB.out)⟩⟩
           case round =>
            clear H'
            try clear c1
            try clear c2
            try clear p2
            try clear c3
            try clear p3
            try clear q3
            try clear hx3
            try clear c4
            try clear c5
            try clear c6
            try clear p6
            try clear c8
            try clear c9
            try clear c12
            try clear c12b0
            try clear c12b1
            try clear c12b2
            try clear c14
            try clear c15
            try clear c16
            try clear c17
            try clear c19
            try clear c20
            try clear c27
            try clear c28
            try clear p30
            try clear q30
            try clear hx30
            try clear c39
            try clear c47
            try clear c47b0
            try clear c48
            try clear c48b0
            try clear c49
            try clear c49b0
            try clear c49b1
            try clear c51
            try clear c51b0
            try clear c52
            try clear c52b0
            try clear c53
            try clear c55
            try clear c55b0
            try clear c56
            try clear c56b0
            try clear c57
            try clear c57b0
            try clear c59
            try clear c59b0
            try clear c59b1
            try clear c59b2
            try clear c61
            try clear c62
            try clear p64
            try clear c65
            try clear c68
            try clear c69
            try clear hcz15_0
            try clear hcz15_1
            try clear hcz15_2
            try clear hcz15_3
            try clear hcz15_4
            try clear hcz15_5
            try clear hcz17_0
            try clear hcz17_1
            try clear hcz17_2
            try clear hcz17_3
            try clear hcz17_4
            try clear hcz17_5
            try clear hcz21_0
            try clear hcz21_1
            try clear hcz21_2
            try clear hcz21_3
            try clear hcz21_4
            try clear hcz21_5
            try clear hcz34_0
            try clear hcz34_1
            try clear hcz34_2
            try clear hcz34_3
            try clear hcz34_4
            try clear hcz34_5
            try clear hcz36_0
            try clear hcz36_1
            try clear hcz36_2
            try clear hcz36_3
            try clear hcz36_4
            try clear hcz36_5
            try clear hcz40_0
            try clear hcz40_1
            try clear hcz40_2
            try clear hcz40_3
            try clear hcz40_4
            try clear hcz40_5
            try clear hcz66_0
            try clear hcz66_1
            try clear hcz66_2
            try clear hcz66_3
            try clear hcz66_4
            try clear hcz66_5
            try clear hcz70_0
            try clear hcz70_1
            try clear hcz70_2
            try clear hcz70_3
            try clear hcz70_4
            try clear hcz70_5
            try clear hcz73_0
            try clear hcz73_1
            try clear hcz73_2
            try clear hcz73_3
            try clear hcz73_4
            try clear hcz73_5
            try clear hcz77_0
            try clear hcz77_1
            try clear hcz77_2
            try clear hcz77_3
            try clear hcz77_4
            try clear hcz77_5
            try clear hfz15_0
            try clear hfz15_1
            try clear hfz15_2
            try clear hfz15_3
            try clear hfz15_4
            try clear hfz15_5
            try clear hfz17_0
            try clear hfz17_1
            try clear hfz17_2
            try clear hfz17_3
            try clear hfz17_4
            try clear hfz17_5
            try clear hfz21_0
            try clear hfz21_1
            try clear hfz21_2
            try clear hfz21_3
            try clear hfz21_4
            try clear hfz21_5
            try clear hfz34_0
            try clear hfz34_1
            try clear hfz34_2
            try clear hfz34_3
            try clear hfz34_4
            try clear hfz34_5
            try clear hfz36_0
            try clear hfz36_1
            try clear hfz36_2
            try clear hfz36_3
            try clear hfz36_4
            try clear hfz36_5
            try clear hfz40_0
            try clear hfz40_1
            try clear hfz40_2
            try clear hfz40_3
            try clear hfz40_4
            try clear hfz40_5
            try clear hfz66_0
            try clear hfz66_1
            try clear hfz66_2
            try clear hfz66_3
            try clear hfz66_4
            try clear hfz66_5
            try clear hfz70_0
            try clear hfz70_1
            try clear hfz70_2
            try clear hfz70_3
            try clear hfz70_4
            try clear hfz70_5
            try clear hfz73_0
            try clear hfz73_1
            try clear hfz73_2
            try clear hfz73_3
            try clear hfz73_4
            try clear hfz73_5
            try clear hfz77_0
            try clear hfz77_1
            try clear hfz77_2
            try clear hfz77_3
            try clear hfz77_4
            try clear hfz77_5
            try clear hx306_0
            try clear hx307_0
            try clear hx308_0
            try clear p2
            try clear p3
            try clear p30
            try clear p306
            try clear p307
            try clear p308
            try clear p6
            try clear q3
            try clear q30
            try clear q306
            try clear q307
            try clear q308
            obtain ⟨x19_3, x20_3, rfl, rfl, HA, HK3, HO_17, HO_18, HO_297003, HO_297004, HO_297005, HO_311003, HO_311004, HO_311005, BK281, BK296, BK310, HB⟩ := hrel
            cases gk with
            | zero => exact absurd HA.out (by simp [interlocutorlaw6_LexMore.l1])
            | succ k3 =>
             have H := HA.out
             clear HA
             simp only [interlocutorlaw6_LexMore.l1] at H
             by_cases c82 : x20_3 < (t323.length : Int)
             ·rw [if_pos c82] at H
              have c82b0 : decide (x20_3 < (t323.length : Int)) = true := decide_eq_true c82
              clear c82
              have HC83 := Aside0.mk H
              clear H
              obtain ⟨Ao84, co84, eo84⟩ := Kd.R_slice HO_18.out
              subst eo84
              go_upto_region 25 with (fail)
              go_cut [121] (fun v121 wc => ∃ (kq : Nat) (x121_82 : Bool), v121 = .bool x121_82 ∧ Aside0 (interlocutorlaw6_LexMore.j4 kq t320 t323 x19_3 x20_3 x121_82 = some r) ∧ Aside0 (kq ≤ k3) ∧ Aside0 (Kd.R k47 47 wc w.heap.size (fun k_ => some k_ ≠ ((.slice Ao84 t323.length co84) : Value).ownBlock) v321 t320) ∧ Aside0 (Kd.R k47 47 wc w.heap.size (fun k_ => some k_ ≠ (v321 : Value).ownBlock) (.slice Ao84 t323.length co84) t323) ∧ Aside0 (Kd.V k53 53 wc w.heap.size (fun k_ => some k_ ≠ (v321 : Value).ownBlock ∧ some k_ ≠ ((.slice Ao84 t323.length co84) : Value).ownBlock ∧ some k_ ≠ ((.slice Ao76 y317.length co76) : Value).ownBlock ∧ k_ ≠ gb281 ∧ k_ ≠ gb296 ∧ k_ ≠ gb310) (.slice Ao41 t287.length co41) t287) ∧ Aside0 (Kd.V k108 108 wc w.heap.size (fun k_ => some k_ ≠ (v321 : Value).ownBlock ∧ some k_ ≠ ((.slice Ao84 t323.length co84) : Value).ownBlock ∧ some k_ ≠ ((.slice Ao76 y317.length co76) : Value).ownBlock ∧ k_ ≠ gb281 ∧ k_ ≠ gb296 ∧ k_ ≠ gb310) (.slice Ao42 t290.length co42) t290) ∧ Aside0 (Kd.V k138 138 wc w.heap.size (fun k_ => some k_ ≠ (v321 : Value).ownBlock ∧ some k_ ≠ ((.slice Ao84 t323.length co84) : Value).ownBlock ∧ some k_ ≠ ((.slice Ao76 y317.length co76) : Value).ownBlock ∧ k_ ≠ gb281 ∧ k_ ≠ gb296 ∧ k_ ≠ gb310) (.slice Ao43 t293.length co43) t293) ∧ Aside0 (Kd.R k53 53 wc w.heap.size (fun _ => True) (.slice Ao76 y317.length co76) y317) ∧ Aside0 (Kd.V k108 108 wc w.heap.size (fun k_ => some k_ ≠ (v321 : Value).ownBlock ∧ some k_ ≠ ((.slice Ao84 t323.length co84) : Value).ownBlock ∧ some k_ ≠ ((.slice Ao76 y317.length co76) : Value).ownBlock ∧ k_ ≠ gb281 ∧ k_ ≠ gb296 ∧ k_ ≠ gb310) (.slice Ao42 t290.length co42) t290) ∧ Aside0 (Kd.V k138 138 wc w.heap.size (fun k_ => some k_ ≠ (v321 : Value).ownBlock ∧ some k_ ≠ ((.slice Ao84 t323.length co84) : Value).ownBlock ∧ some k_ ≠ ((.slice Ao76 y317.length co76) : Value).ownBlock ∧ k_ ≠ gb281 ∧ k_ ≠ gb296 ∧ k_ ≠ gb310) (.slice Ao43 t293.length co43) t293) ∧ Aside0 (wc.heap[gb281]? = some (.cells #[.int .i64 a0_0, .int .i64 a0_1, .int .i64 a0_2, .int .i64 a0_3, (.slice A0_4 l0_4.length c0_4), .bool a0_5] 24 (0, 0))) ∧ Aside0 (wc.heap[gb296]? = some (.cells #[.string t284, .int .i64 t285, .int .i64 t286, (.slice Ao41 t287.length co41), (.slice Ao42 t290.length co42), (.slice Ao43 t293.length co43)] 32 (0, 0))) ∧ Aside0 (wc.heap[gb310]? = some (.cells #[.string t284, .int .i64 t285, .int .i64 t286, (.slice Ao76 y317.length co76), (.slice Ao42 t290.length co42), (.slice Ao43 t293.length co43)] 32 (0, 0))) ∧ Aside0 (Below w.heap.size w wc))
              case first =>
               have H := HC83.out
               clear HC83
               by_cases c85 : x19_3 < (t320.length : Int)
               ·rw [if_pos c85] at H
                have c85b0 : decide (x19_3 < (t320.length : Int)) = true := decide_eq_true c85
                clear c85
                (first | rw [c85b0] | (simp only [i64_w, i32_w]; rw [c85b0]) | skip)
                by_cases c86 : 0 ≤ x20_3
                ·rw [if_pos c86] at H
                 have c86b0 : decide (0 ≤ x20_3) = true := decide_eq_true c86
                 clear c86
                 by_cases c87 : 0 ≤ x19_3
                 ·rw [if_pos c87] at H
                  have c87b0 : decide (0 ≤ x19_3) = true := decide_eq_true c87
                  clear c87
                  have H' := Aside0.mk H
                  clear H
                  try go_wp2
                  have n0_ := Aside0.mk (Kd.R_drew HO_17.out)
                  have n1_ := Aside0.mk (Kd.R_drew HO_18.out)
                  have n2_ := Aside0.mk (Kd.V_drew HO_297003.out)
                  have n3_ := Aside0.mk (Kd.V_drew HO_297004.out)
                  have n4_ := Aside0.mk (Kd.V_drew HO_297005.out)
                  have n5_ := Aside0.mk (Kd.R_drew HO_311003.out)
                  have n6_ := Aside0.mk (Kd.V_drew HO_311004.out)
                  have n7_ := Aside0.mk (Kd.V_drew HO_311005.out)
                  have n8_ := Aside0.mk (blk_drew BK281.out)
                  have n9_ := Aside0.mk (blk_drew BK296.out)
                  have n10_ := Aside0.mk (blk_drew BK310.out)
                  have n11_ := Aside0.mk (below_drew1 HB.out)
                  clear HO_17 HO_18 HO_297003 HO_297004 HO_297005 HO_311003 HO_311004 HO_311005 BK281 BK296 BK310 HB
                  have HO_17 := n0_
                  have HO_18 := n1_
                  have HO_297003 := n2_
                  have HO_297004 := n3_
                  have HO_297005 := n4_
                  have HO_311003 := n5_
                  have HO_311004 := n6_
                  have HO_311005 := n7_
                  have BK281 := n8_
                  have BK296 := n9_
                  have BK310 := n10_
                  have HB := n11_
                  clear n0_ n1_ n2_ n3_ n4_ n5_ n6_ n7_ n8_ n9_ n10_ n11_
                  obtain ⟨Ao89, co89, eo89⟩ := Kd.R_slice HO_17.out
                  (first | subst eo89 | (injection eo89 with f1_ f2_ f3_; have f4_ := f1_.symm; have f5_ := f3_.symm; clear f1_ f2_ f3_; subst f4_; subst f5_))
                  have p326 : 0 ≤ (x20_3 : Int) := of_decide_eq_true (by first | (with_reducible assumption) | assumption)
                  have q326 : x20_3 < (t323.length : Int) := of_decide_eq_true (by first | (with_reducible assumption) | assumption)
                  obtain ⟨ad326, e326, hx326_0, hx326_1, hx326_2, hx326_3, hx326_4⟩ := at_T47 (Kd.R_reads' HO_18.out).2.2 x20_3 p326 q326
                  cases e326
                  replace p326 := eq_true p326
                  replace q326 := eq_true q326
                  have p327 : 0 ≤ (x19_3 : Int) := of_decide_eq_true (by first | (with_reducible assumption) | assumption)
                  have q327 : x19_3 < (t320.length : Int) := of_decide_eq_true (by first | (with_reducible assumption) | assumption)
                  obtain ⟨ad327, e327, hx327_0, hx327_1, hx327_2, hx327_3, hx327_4⟩ := at_T47 (Kd.R_reads' HO_17.out).2.2 x19_3 p327 q327
                  cases e327
                  replace p327 := eq_true p327
                  replace q327 := eq_true q327
                  refine start_ (n := 15) (S := fun w' => w'.cell? (ad326.add ((x20_3).toNat * 5)) = some (.int .i64 ((rd_T47 t323 x20_3).f0)) ∧ w'.cell? ⟨(ad326.add ((x20_3).toNat * 5)).block, (ad326.add ((x20_3).toNat * 5)).off + 1, none⟩ = some (.int .i64 ((rd_T47 t323 x20_3).f1)) ∧ w'.cell? ⟨(ad326.add ((x20_3).toNat * 5)).block, (ad326.add ((x20_3).toNat * 5)).off + 2, none⟩ = some (.int .i64 ((rd_T47 t323 x20_3).f2)) ∧ w'.cell? ⟨(ad326.add ((x20_3).toNat * 5)).block, (ad326.add ((x20_3).toNat * 5)).off + 3, none⟩ = some (.int .i64 ((rd_T47 t323 x20_3).f3)) ∧ w'.cell? ⟨(ad326.add ((x20_3).toNat * 5)).block, (ad326.add ((x20_3).toNat * 5)).off + 4, none⟩ = some (.int .i64 ((rd_T47 t323 x20_3).f4)) ∧ w'.cell? (ad327.add ((x19_3).toNat * 5)) = some (.int .i64 ((rd_T47 t320 x19_3).f0)) ∧ w'.cell? ⟨(ad327.add ((x19_3).toNat * 5)).block, (ad327.add ((x19_3).toNat * 5)).off + 1, none⟩ = some (.int .i64 ((rd_T47 t320 x19_3).f1)) ∧ w'.cell? ⟨(ad327.add ((x19_3).toNat * 5)).block, (ad327.add ((x19_3).toNat * 5)).off + 2, none⟩ = some (.int .i64 ((rd_T47 t320 x19_3).f2)) ∧ w'.cell? ⟨(ad327.add ((x19_3).toNat * 5)).block, (ad327.add ((x19_3).toNat * 5)).off + 3, none⟩ = some (.int .i64 ((rd_T47 t320 x19_3).f3)) ∧ w'.cell? ⟨(ad327.add ((x19_3).toNat * 5)).block, (ad327.add ((x19_3).toNat * 5)).off + 4, none⟩ = some (.int .i64 ((rd_T47 t320 x19_3).f4))) (ds := []) #[false, false, false, false, false, false, false, false, false, false, false, false, false, false, false] (by kernel_rfl) rfl rfl ⟨hx326_0, hx326_1, hx326_2, hx326_3, hx326_4, hx327_0, hx327_1, hx327_2, hx327_3, hx327_4⟩ (fun hHeld => ?_); refine with_tabW interlocutorlaw6_LexMore.tab25 interlocutorlaw6_LexMore.bits25 (fun HT_ HW_ => ?_)
                  generalize wr.drew = w88 at HO_17 HO_18 HO_297003 HO_297004 HO_297005 HO_311003 HO_311004 HO_311005 BK281 BK296 BK310 HB hx326_0 hx326_1 hx326_2 hx326_3 hx326_4 hx327_0 hx327_1 hx327_2 hx327_3 hx327_4 hHeld ⊢
                  refine pU HT_ 0 (some 107) (oB 15 1) ?_
                  refine pU HT_ 1 (some 108) (oB 15 3) ?_
                  refine pU HT_ 2 (some 109) (oB 15 7) ?_
                  refine pU HT_ 3 (some 110) (oB 15 15) ?_
                  refine pU HT_ 4 (some 111) (oB 15 31) ?_
                  refine pU HT_ 5 (some 112) (oB 15 63) ?_
                  refine pU HT_ 6 (some 113) (oB 15 127) ?_
                  refine pU HT_ 7 (some 114) (oB 15 255) ?_
                  refine pU HT_ 9 (some 116) (oB 15 767) ?_
                  refine pU HT_ 10 (some 117) (oB 15 1791) ?_
                  refine pU HT_ 11 (some 118) (oB 15 3839) ?_
                  refine take_ (i := 8) (N := some 115) (v := ?_) (a' := ?_) (oB 15 4095) rfl rfl (take_ofW HT_.out HW_.out (by kernel_rfl)) (fun _ _ _ h => h) (Or.inl ⟨by rfl, ?_⟩) hHeld ?_ ?_
                  rotate_left
                  ·rintro w' ⟨s0, s1, s2, s3, s4, s5, s6, s7, s8, s9⟩
                   go_simp
                   with_reducible rfl
                  rotate_left
                  ·simp only [Act.put, List.setIfInBounds_toArray, List.set_cons_zero, List.set_cons_succ, i64_w, i32_w]
                   rfl
                  refine take_ (i := 12) (N := some 119) (v := ?_) (a' := ?_) (oB 15 8191) rfl rfl (take_ofW HT_.out HW_.out (by kernel_rfl)) (fun _ _ _ h => h) (Or.inl ⟨by rfl, ?_⟩) hHeld ?_ ?_
                  rotate_left
                  ·rintro w' ⟨s0, s1, s2, s3, s4, s5, s6, s7, s8, s9⟩
                   go_simp
                   with_reducible rfl
                  rotate_left
                  ·simp only [Act.put, List.setIfInBounds_toArray, List.set_cons_zero, List.set_cons_succ, i64_w, i32_w]
                   rfl
                  refine pU HT_ 13 (some 120) (oB 15 16383) ?_
                  refine pU HT_ 14 (some 121) (oB 15 32767) ?_
                  refine done_ (done_of HT_.out (by kernel_rfl)) ?_
                  try go_wp2
                  go_meet
                  case rel => exact ⟨_, ((((rd_T47 t323 x20_3).f0) == ((rd_T47 t320 x19_3).f0) && (((rd_T47 t323 x20_3).f1) == ((rd_T47 t320 x19_3).f1) && (((rd_T47 t323 x20_3).f2) == ((rd_T47 t320 x19_3).f2) && (((rd_T47 t323 x20_3).f3) == ((rd_T47 t320 x19_3).f3) && (((rd_T47 t323 x20_3).f4) == ((rd_T47 t320 x19_3).f4))))))), (by first | rfl | (simp; done) | (simp [*]; done)), H', ⟨by have := HJ30.out; have := HJ53.out; have := HK3.out; first | omega | exact Nat.le_refl _⟩, ⟨by exact rU HO_17.out⟩, ⟨by exact rU HO_18.out⟩, ⟨by exact vU HO_297003.out⟩, ⟨by exact vU HO_297004.out⟩, ⟨by exact vU HO_297005.out⟩, ⟨by exact rU HO_311003.out⟩, ⟨by exact vU HO_311004.out⟩, ⟨by exact vU HO_311005.out⟩, ⟨by (with_reducible repeat (first | refine blk_drewN ?_ _ | refine blk_drew ?_ | refine blk_alloc ?_ _)); exact BK281.out⟩, ⟨by (with_reducible repeat (first | refine blk_drewN ?_ _ | refine blk_drew ?_ | refine blk_alloc ?_ _)); exact BK296.out⟩, ⟨by (with_reducible repeat (first | refine blk_drewN ?_ _ | refine blk_drew ?_ | refine blk_alloc ?_ _)); exact BK310.out⟩, ⟨by repeat (first | (with_reducible first | exact HB.out | apply below_alloc | apply pw_below_drewN | apply below_drew1 | refine below_set ?_ GE281.out | refine below_set ?_ GE296.out | refine below_set ?_ GE310.out) | exact HB.out)⟩⟩
                 ·rw [if_neg c87] at H
                  exact absurd H (by simp)
                ·rw [if_neg c86] at H
                 exact absurd H (by simp)
               ·rw [if_neg c85] at H
                have c85b0 : decide (x19_3 < (t320.length : Int)) = false := decide_eq_false c85
                clear c85
                (first | rw [c85b0] | (simp only [i64_w, i32_w]; rw [c85b0]) | skip)
                have H' := Aside0.mk H
                clear H
                try go_wp2
                have n0_ := Aside0.mk (Kd.R_drew HO_17.out)
                have n1_ := Aside0.mk (Kd.R_drew HO_18.out)
                have n2_ := Aside0.mk (Kd.V_drew HO_297003.out)
                have n3_ := Aside0.mk (Kd.V_drew HO_297004.out)
                have n4_ := Aside0.mk (Kd.V_drew HO_297005.out)
                have n5_ := Aside0.mk (Kd.R_drew HO_311003.out)
                have n6_ := Aside0.mk (Kd.V_drew HO_311004.out)
                have n7_ := Aside0.mk (Kd.V_drew HO_311005.out)
                have n8_ := Aside0.mk (blk_drew BK281.out)
                have n9_ := Aside0.mk (blk_drew BK296.out)
                have n10_ := Aside0.mk (blk_drew BK310.out)
                have n11_ := Aside0.mk (below_drew1 HB.out)
                clear HO_17 HO_18 HO_297003 HO_297004 HO_297005 HO_311003 HO_311004 HO_311005 BK281 BK296 BK310 HB
                have HO_17 := n0_
                have HO_18 := n1_
                have HO_297003 := n2_
                have HO_297004 := n3_
                have HO_297005 := n4_
                have HO_311003 := n5_
                have HO_311004 := n6_
                have HO_311005 := n7_
                have BK281 := n8_
                have BK296 := n9_
                have BK310 := n10_
                have HB := n11_
                clear n0_ n1_ n2_ n3_ n4_ n5_ n6_ n7_ n8_ n9_ n10_ n11_
                obtain ⟨Ao91, co91, eo91⟩ := Kd.R_slice HO_17.out
                (first | subst eo91 | (injection eo91 with f1_ f2_ f3_; have f4_ := f1_.symm; have f5_ := f3_.symm; clear f1_ f2_ f3_; subst f4_; subst f5_))
                refine start_ (n := 15) (S := fun w' => True) (ds := []) #[false, false, false, false, false, false, false, false, false, false, false, false, false, false, false] (by kernel_rfl) rfl rfl trivial (fun hHeld => ?_); refine with_tabW interlocutorlaw6_LexMore.tab25 interlocutorlaw6_LexMore.bits25 (fun HT_ HW_ => ?_)
                generalize wr.drew = w90 at HO_17 HO_18 HO_297003 HO_297004 HO_297005 HO_311003 HO_311004 HO_311005 BK281 BK296 BK310 HB hHeld ⊢
                refine pU HT_ 0 (some 107) (oB 15 1) ?_
                refine pU HT_ 1 (some 108) (oB 15 3) ?_
                refine pU HT_ 2 (some 109) (oB 15 7) ?_
                refine pU HT_ 3 (some 110) (oB 15 15) ?_
                refine pU HT_ 4 (some 111) (oB 15 31) ?_
                refine pure_ (i := 5) (N := some 112) (v := undef) (a' := ?_) (oB 15 63) rfl rfl (any_of HT_.out (by kernel_rfl)) (fun _ _ _ h => h) (Or.inr ⟨by rfl, rfl⟩) ?_ ?_
                rotate_left
                ·simp only [Act.put, List.setIfInBounds_toArray, List.set_cons_zero, List.set_cons_succ, i64_w, i32_w]
                 rfl
                refine pure_ (i := 6) (N := some 113) (v := undef) (a' := ?_) (oB 15 127) rfl rfl (any_of HT_.out (by kernel_rfl)) (fun _ _ _ h => h) (Or.inr ⟨by rfl, rfl⟩) ?_ ?_
                rotate_left
                ·simp only [Act.put, List.setIfInBounds_toArray, List.set_cons_zero, List.set_cons_succ, i64_w, i32_w]
                 rfl
                refine pure_ (i := 7) (N := some 114) (v := undef) (a' := ?_) (oB 15 255) rfl rfl (any_of HT_.out (by kernel_rfl)) (fun _ _ _ h => h) (Or.inr ⟨by rfl, rfl⟩) ?_ ?_
                rotate_left
                ·simp only [Act.put, List.setIfInBounds_toArray, List.set_cons_zero, List.set_cons_succ, i64_w, i32_w]
                 rfl
                refine pure_ (i := 8) (N := some 115) (v := undef) (a' := ?_) (oB 15 511) rfl rfl (any_of HT_.out (by kernel_rfl)) (fun _ _ _ h => h) (Or.inr ⟨by rfl, rfl⟩) ?_ ?_
                rotate_left
                ·simp only [Act.put, List.setIfInBounds_toArray, List.set_cons_zero, List.set_cons_succ, i64_w, i32_w]
                 rfl
                refine pure_ (i := 9) (N := some 116) (v := undef) (a' := ?_) (oB 15 1023) rfl rfl (any_of HT_.out (by kernel_rfl)) (fun _ _ _ h => h) (Or.inr ⟨by rfl, rfl⟩) ?_ ?_
                rotate_left
                ·simp only [Act.put, List.setIfInBounds_toArray, List.set_cons_zero, List.set_cons_succ, i64_w, i32_w]
                 rfl
                refine pure_ (i := 10) (N := some 117) (v := undef) (a' := ?_) (oB 15 2047) rfl rfl (any_of HT_.out (by kernel_rfl)) (fun _ _ _ h => h) (Or.inr ⟨by rfl, rfl⟩) ?_ ?_
                rotate_left
                ·simp only [Act.put, List.setIfInBounds_toArray, List.set_cons_zero, List.set_cons_succ, i64_w, i32_w]
                 rfl
                refine pure_ (i := 11) (N := some 118) (v := undef) (a' := ?_) (oB 15 4095) rfl rfl (any_of HT_.out (by kernel_rfl)) (fun _ _ _ h => h) (Or.inr ⟨by rfl, rfl⟩) ?_ ?_
                rotate_left
                ·simp only [Act.put, List.setIfInBounds_toArray, List.set_cons_zero, List.set_cons_succ, i64_w, i32_w]
                 rfl
                refine pure_ (i := 12) (N := some 119) (v := undef) (a' := ?_) (oB 15 8191) rfl rfl (any_of HT_.out (by kernel_rfl)) (fun _ _ _ h => h) (Or.inr ⟨by rfl, rfl⟩) ?_ ?_
                rotate_left
                ·simp only [Act.put, List.setIfInBounds_toArray, List.set_cons_zero, List.set_cons_succ, i64_w, i32_w]
                 rfl
                refine pure_ (i := 13) (N := some 120) (v := undef) (a' := ?_) (oB 15 16383) rfl rfl (any_of HT_.out (by kernel_rfl)) (fun _ _ _ h => h) (Or.inr ⟨by rfl, rfl⟩) ?_ ?_
                rotate_left
                ·simp only [Act.put, List.setIfInBounds_toArray, List.set_cons_zero, List.set_cons_succ, i64_w, i32_w]
                 rfl
                refine pU HT_ 14 (some 121) (oB 15 32767) ?_
                refine done_ (done_of HT_.out (by kernel_rfl)) ?_
                try go_wp2
                go_meet
                case rel => exact ⟨_, (false), (by first | rfl | (simp; done) | (simp [*]; done)), H', ⟨by have := HJ30.out; have := HJ53.out; have := HK3.out; first | omega | exact Nat.le_refl _⟩, ⟨by exact rU HO_17.out⟩, ⟨by exact rU HO_18.out⟩, ⟨by exact vU HO_297003.out⟩, ⟨by exact vU HO_297004.out⟩, ⟨by exact vU HO_297005.out⟩, ⟨by exact rU HO_311003.out⟩, ⟨by exact vU HO_311004.out⟩, ⟨by exact vU HO_311005.out⟩, ⟨by (with_reducible repeat (first | refine blk_drewN ?_ _ | refine blk_drew ?_ | refine blk_alloc ?_ _)); exact BK281.out⟩, ⟨by (with_reducible repeat (first | refine blk_drewN ?_ _ | refine blk_drew ?_ | refine blk_alloc ?_ _)); exact BK296.out⟩, ⟨by (with_reducible repeat (first | refine blk_drewN ?_ _ | refine blk_drew ?_ | refine blk_alloc ?_ _)); exact BK310.out⟩, ⟨by repeat (first | (with_reducible first | exact HB.out | apply below_alloc | apply pw_below_drewN | apply below_drew1 | refine below_set ?_ GE281.out | refine below_set ?_ GE296.out | refine below_set ?_ GE310.out) | exact HB.out)⟩⟩
              case rest =>
               clear HC83
               try clear c1
               try clear c2
               try clear p2
               try clear c3
               try clear p3
               try clear q3
               try clear hx3
               try clear c4
               try clear c5
               try clear c6
               try clear p6
               try clear c8
               try clear c9
               try clear c12
               try clear c12b0
               try clear c12b1
               try clear c12b2
               try clear c14
               try clear c15
               try clear c16
               try clear c17
               try clear c19
               try clear c20
               try clear c27
               try clear c28
               try clear p30
               try clear q30
               try clear hx30
               try clear p32
               try clear q32
               try clear hx32
               try clear c39
               try clear c47
               try clear c47b0
               try clear c48
               try clear c48b0
               try clear c49
               try clear c49b0
               try clear c49b1
               try clear c51
               try clear c51b0
               try clear c52
               try clear c52b0
               try clear c53
               try clear c55
               try clear c55b0
               try clear c56
               try clear c56b0
               try clear c57
               try clear c57b0
               try clear c59
               try clear c59b0
               try clear c59b1
               try clear c59b2
               try clear c61
               try clear c62
               try clear p64
               try clear c65
               try clear c68
               try clear c69
               try clear c82
               try clear c82b0
               try clear c85
               try clear c85b0
               try clear c86
               try clear c86b0
               try clear c87
               try clear c87b0
               try clear hcz15_0
               try clear hcz15_1
               try clear hcz15_2
               try clear hcz15_3
               try clear hcz15_4
               try clear hcz15_5
               try clear hcz17_0
               try clear hcz17_1
               try clear hcz17_2
               try clear hcz17_3
               try clear hcz17_4
               try clear hcz17_5
               try clear hcz21_0
               try clear hcz21_1
               try clear hcz21_2
               try clear hcz21_3
               try clear hcz21_4
               try clear hcz21_5
               try clear hcz34_0
               try clear hcz34_1
               try clear hcz34_2
               try clear hcz34_3
               try clear hcz34_4
               try clear hcz34_5
               try clear hcz36_0
               try clear hcz36_1
               try clear hcz36_2
               try clear hcz36_3
               try clear hcz36_4
               try clear hcz36_5
               try clear hcz40_0
               try clear hcz40_1
               try clear hcz40_2
               try clear hcz40_3
               try clear hcz40_4
               try clear hcz40_5
               try clear hcz66_0
               try clear hcz66_1
               try clear hcz66_2
               try clear hcz66_3
               try clear hcz66_4
               try clear hcz66_5
               try clear hcz70_0
               try clear hcz70_1
               try clear hcz70_2
               try clear hcz70_3
               try clear hcz70_4
               try clear hcz70_5
               try clear hcz73_0
               try clear hcz73_1
               try clear hcz73_2
               try clear hcz73_3
               try clear hcz73_4
               try clear hcz73_5
               try clear hcz77_0
               try clear hcz77_1
               try clear hcz77_2
               try clear hcz77_3
               try clear hcz77_4
               try clear hcz77_5
               try clear hfz15_0
               try clear hfz15_1
               try clear hfz15_2
               try clear hfz15_3
               try clear hfz15_4
               try clear hfz15_5
               try clear hfz17_0
               try clear hfz17_1
               try clear hfz17_2
               try clear hfz17_3
               try clear hfz17_4
               try clear hfz17_5
               try clear hfz21_0
               try clear hfz21_1
               try clear hfz21_2
               try clear hfz21_3
               try clear hfz21_4
               try clear hfz21_5
               try clear hfz34_0
               try clear hfz34_1
               try clear hfz34_2
               try clear hfz34_3
               try clear hfz34_4
               try clear hfz34_5
               try clear hfz36_0
               try clear hfz36_1
               try clear hfz36_2
               try clear hfz36_3
               try clear hfz36_4
               try clear hfz36_5
               try clear hfz40_0
               try clear hfz40_1
               try clear hfz40_2
               try clear hfz40_3
               try clear hfz40_4
               try clear hfz40_5
               try clear hfz66_0
               try clear hfz66_1
               try clear hfz66_2
               try clear hfz66_3
               try clear hfz66_4
               try clear hfz66_5
               try clear hfz70_0
               try clear hfz70_1
               try clear hfz70_2
               try clear hfz70_3
               try clear hfz70_4
               try clear hfz70_5
               try clear hfz73_0
               try clear hfz73_1
               try clear hfz73_2
               try clear hfz73_3
               try clear hfz73_4
               try clear hfz73_5
               try clear hfz77_0
               try clear hfz77_1
               try clear hfz77_2
               try clear hfz77_3
               try clear hfz77_4
               try clear hfz77_5
               try clear hx306_0
               try clear hx307_0
               try clear hx308_0
               try clear hx326_0
               try clear hx326_1
               try clear hx326_2
               try clear hx326_3
               try clear hx326_4
               try clear hx327_0
               try clear hx327_1
               try clear hx327_2
               try clear hx327_3
               try clear hx327_4
               try clear p2
               try clear p3
               try clear p30
               try clear p306
               try clear p307
               try clear p308
               try clear p326
               try clear p327
               try clear p6
               try clear p64
               try clear q3
               try clear q30
               try clear q306
               try clear q307
               try clear q308
               try clear q326
               try clear q327
               obtain ⟨kq, x121_82, rfl, HA, HJ82, HO_17, HO_18, HO_297003, HO_297004, HO_297005, HO_311003, HO_311004, HO_311005, BK281, BK296, BK310, HB⟩ := hcut
               cases kq with
               | zero => exact absurd HA.out (by simp [interlocutorlaw6_LexMore.j4])
               | succ kj82 =>
                have H := HA.out
                clear HA
                simp only [interlocutorlaw6_LexMore.j4] at H
                by_cases c92 : x121_82 = true
                ·subst c92
                 have H1 : (interlocutorlaw6_LexMore.l1 kj82 t320 t323 (wrap64 (x19_3 + 1)) (wrap64 (x20_3 + 1))) = some r := by rw [if_pos rfl] at H; exact H
                 clear H
                 have H := H1
                 clear H1
                 have H' := Aside0.mk H
                 clear H
                 go_wp2
                 go_roundg kj82
                 case measure => have := HJ30.out; have := HJ53.out; have := HK3.out; have := HJ82.out; omega
                 case rel => exact ⟨(wrap64 (x19_3 + 1)), (wrap64 (x20_3 + 1)), (by first | rfl | (simp; done) | (simp [*]; done)), (by first | rfl | (simp; done) | (simp [*]; done)), H', ⟨by have := HJ30.out; have := HJ53.out; have := HK3.out; have := HJ82.out; omega⟩, ⟨by exact rU HO_17.out⟩, ⟨by exact rU HO_18.out⟩, ⟨by exact vU HO_297003.out⟩, ⟨by exact vU HO_297004.out⟩, ⟨by exact vU HO_297005.out⟩, ⟨by exact rU HO_311003.out⟩, ⟨by exact vU HO_311004.out⟩, ⟨by exact vU HO_311005.out⟩, ⟨by (with_reducible repeat (first | refine blk_drewN ?_ _ | refine blk_drew ?_ | refine blk_alloc ?_ _)); exact BK281.out⟩, ⟨by (with_reducible repeat (first | refine blk_drewN ?_ _ | refine blk_drew ?_ | refine blk_alloc ?_ _)); exact BK296.out⟩, ⟨by (with_reducible repeat (first | refine blk_drewN ?_ _ | refine blk_drew ?_ | refine blk_alloc ?_ _)); exact BK310.out⟩, ⟨by repeat (first | (with_reducible first | exact HB.out | apply below_alloc | apply pw_below_drewN | apply below_drew1 | refine below_set ?_ GE281.out | refine below_set ?_ GE296.out | refine below_set ?_ GE310.out) | exact HB.out)⟩⟩
                ·replace c92 := Bool.eq_false_iff.mpr c92
                 subst c92
                 have H1 : (if 0 ≤ x20_3 then (if x20_3 < (t323.length : Int) then (if ((rd_T47 t323 x20_3).f2) = 9 then (if ((rd_T47 t323 x20_3).f3) = 77 then (interlocutorlaw6_LexMore.l1 kj82 t320 t323 x19_3 (wrap64 (x20_3 + 1))) else (some false)) else (some false)) else (none)) else (none)) = some r := by rw [if_neg (show ¬ (false = true) by decide)] at H; exact H
                 clear H
                 have H := H1
                 clear H1
                 by_cases c93 : 0 ≤ x20_3
                 ·rw [if_pos c93] at H
                  have c93b0 : decide (0 ≤ x20_3) = true := decide_eq_true c93
                  clear c93
                  by_cases c94 : x20_3 < (t323.length : Int)
                  ·rw [if_pos c94] at H
                   have c94b0 : decide (x20_3 < (t323.length : Int)) = true := decide_eq_true c94
                   clear c94
                   by_cases c95 : ((rd_T47 t323 x20_3).f2) = 9
                   ·rw [if_pos c95] at H
                    have c95b0 : (((rd_T47 t323 x20_3).f2) == 9) = true := beq_iff_eq.mpr c95
                    have c95b1 : (((rd_T47 t323 x20_3).f2) != 9) = false := bne_eq_false_iff_eq.mpr c95
                    clear c95
                    by_cases c96 : ((rd_T47 t323 x20_3).f3) = 77
                    ·rw [if_pos c96] at H
                     have c96b0 : (((rd_T47 t323 x20_3).f3) == 77) = true := beq_iff_eq.mpr c96
                     have c96b1 : (((rd_T47 t323 x20_3).f3) != 77) = false := bne_eq_false_iff_eq.mpr c96
                     clear c96
                     have H' := Aside0.mk H
                     clear H
                     have p328 : 0 ≤ (x20_3 : Int) := of_decide_eq_true (by first | (with_reducible assumption) | assumption)
                     have q328 : x20_3 < (t323.length : Int) := of_decide_eq_true (by first | (with_reducible assumption) | assumption)
                     obtain ⟨ad328, e328, hx328_0, hx328_1, hx328_2, hx328_3, hx328_4⟩ := at_T47 (Kd.R_reads' HO_18.out).2.2 x20_3 p328 q328
                     cases e328
                     replace p328 := eq_true p328
                     replace q328 := eq_true q328
                     have p329 : 0 ≤ (x20_3 : Int) := of_decide_eq_true (by first | (with_reducible assumption) | assumption)
                     have q329 : x20_3 < (t323.length : Int) := of_decide_eq_true (by first | (with_reducible assumption) | assumption)
                     obtain ⟨ad329, e329, hx329_0, hx329_1, hx329_2, hx329_3, hx329_4⟩ := at_T47 (Kd.R_reads' HO_18.out).2.2 x20_3 p329 q329
                     obtain rfl : ad328 = ad329 := (by injection e329)
                     replace p329 := eq_true p329
                     replace q329 := eq_true q329
                     go_wp2
                     go_roundg kj82
                     case measure => have := HJ30.out; have := HJ53.out; have := HK3.out; have := HJ82.out; omega
                     case rel => exact ⟨(x19_3), (wrap64 (x20_3 + 1)), (by first | rfl | (simp; done) | (simp [*]; done)), (by first | rfl | (simp; done) | (simp [*]; done)), H', ⟨by have := HJ30.out; have := HJ53.out; have := HK3.out; have := HJ82.out; omega⟩, ⟨by exact rU HO_17.out⟩, ⟨by exact rU HO_18.out⟩, ⟨by exact vU HO_297003.out⟩, ⟨by exact vU HO_297004.out⟩, ⟨by exact vU HO_297005.out⟩, ⟨by exact rU HO_311003.out⟩, ⟨by exact vU HO_311004.out⟩, ⟨by exact vU HO_311005.out⟩, ⟨by (with_reducible repeat (first | refine blk_drewN ?_ _ | refine blk_drew ?_ | refine blk_alloc ?_ _)); exact BK281.out⟩, ⟨by (with_reducible repeat (first | refine blk_drewN ?_ _ | refine blk_drew ?_ | refine blk_alloc ?_ _)); exact BK296.out⟩, ⟨by (with_reducible repeat (first | refine blk_drewN ?_ _ | refine blk_drew ?_ | refine blk_alloc ?_ _)); exact BK310.out⟩, ⟨by repeat (first | (with_reducible first | exact HB.out | apply below_alloc | apply pw_below_drewN | apply below_drew1 | refine below_set ?_ GE281.out | refine below_set ?_ GE296.out | refine below_set ?_ GE310.out) | exact HB.out)⟩⟩
                    ·rw [if_neg c96] at H
                     have c96b0 : (((rd_T47 t323 x20_3).f3) == 77) = false := beq_eq_false_iff_ne.mpr c96
                     have c96b1 : (((rd_T47 t323 x20_3).f3) != 77) = true := bne_iff_ne.mpr c96
                     obtain rfl := Option.some.inj H
                     have p328 : 0 ≤ (x20_3 : Int) := of_decide_eq_true (by first | (with_reducible assumption) | assumption)
                     have q328 : x20_3 < (t323.length : Int) := of_decide_eq_true (by first | (with_reducible assumption) | assumption)
                     obtain ⟨ad328, e328, hx328_0, hx328_1, hx328_2, hx328_3, hx328_4⟩ := at_T47 (Kd.R_reads' HO_18.out).2.2 x20_3 p328 q328
                     cases e328
                     replace p328 := eq_true p328
                     replace q328 := eq_true q328
                     have p329 : 0 ≤ (x20_3 : Int) := of_decide_eq_true (by first | (with_reducible assumption) | assumption)
                     have q329 : x20_3 < (t323.length : Int) := of_decide_eq_true (by first | (with_reducible assumption) | assumption)
                     obtain ⟨ad329, e329, hx329_0, hx329_1, hx329_2, hx329_3, hx329_4⟩ := at_T47 (Kd.R_reads' HO_18.out).2.2 x20_3 p329 q329
                     obtain rfl : ad328 = ad329 := (by injection e329)
                     replace p329 := eq_true p329
                     replace q329 := eq_true q329
                     go_wp2
                     go_ret
                     exact ⟨by first | rfl | (simp [errW_none, errW_some] <;> rfl) | (simp only [← hji29]; first | rfl | (simp [errW_none, errW_some] <;> rfl)) | (simp [*, errW_none, errW_some] <;> rfl), by repeat (first | (with_reducible first | exact HB.out | apply below_alloc | apply pw_below_drewN | apply below_drew1 | refine below_set ?_ GE281.out | refine below_set ?_ GE296.out | refine below_set ?_ GE310.out) | exact HB.out)⟩
                   ·rw [if_neg c95] at H
                    have c95b0 : (((rd_T47 t323 x20_3).f2) == 9) = false := beq_eq_false_iff_ne.mpr c95
                    have c95b1 : (((rd_T47 t323 x20_3).f2) != 9) = true := bne_iff_ne.mpr c95
                    obtain rfl := Option.some.inj H
                    have p328 : 0 ≤ (x20_3 : Int) := of_decide_eq_true (by first | (with_reducible assumption) | assumption)
                    have q328 : x20_3 < (t323.length : Int) := of_decide_eq_true (by first | (with_reducible assumption) | assumption)
                    obtain ⟨ad328, e328, hx328_0, hx328_1, hx328_2, hx328_3, hx328_4⟩ := at_T47 (Kd.R_reads' HO_18.out).2.2 x20_3 p328 q328
                    cases e328
                    replace p328 := eq_true p328
                    replace q328 := eq_true q328
                    go_wp2
                    go_ret
                    exact ⟨by first | rfl | (simp [errW_none, errW_some] <;> rfl) | (simp only [← hji29]; first | rfl | (simp [errW_none, errW_some] <;> rfl)) | (simp [*, errW_none, errW_some] <;> rfl), by repeat (first | (with_reducible first | exact HB.out | apply below_alloc | apply pw_below_drewN | apply below_drew1 | refine below_set ?_ GE281.out | refine below_set ?_ GE296.out | refine below_set ?_ GE310.out) | exact HB.out)⟩
                  ·rw [if_neg c94] at H
                   exact absurd H (by simp)
                 ·rw [if_neg c93] at H
                  exact absurd H (by simp)
             ·rw [if_neg c82] at H
              have c82b0 : decide (x20_3 < (t323.length : Int)) = false := decide_eq_false c82
              clear c82
              by_cases c97 : x19_3 = (t320.length : Int)
              ·rw [if_pos c97] at H
               have c97b0 : (x19_3 == (t320.length : Int)) = true := beq_iff_eq.mpr c97
               have c97b1 : (x19_3 != (t320.length : Int)) = false := bne_eq_false_iff_eq.mpr c97
               clear c97
               obtain rfl := Option.some.inj H
               obtain ⟨Ao98, co98, eo98⟩ := Kd.R_slice HO_18.out
               subst eo98
               obtain ⟨Ao99, co99, eo99⟩ := Kd.R_slice HO_17.out
               subst eo99
               go_wp2
               go_ret
               exact ⟨by first | rfl | (simp [errW_none, errW_some] <;> rfl) | (simp only [← hji29]; first | rfl | (simp [errW_none, errW_some] <;> rfl)) | (simp [*, errW_none, errW_some] <;> rfl), by repeat (first | (with_reducible first | exact HB.out | apply below_alloc | apply pw_below_drewN | apply below_drew1 | refine below_set ?_ GE281.out | refine below_set ?_ GE296.out | refine below_set ?_ GE310.out) | exact HB.out)⟩
              ·rw [if_neg c97] at H
               have c97b0 : (x19_3 == (t320.length : Int)) = false := beq_eq_false_iff_ne.mpr c97
               have c97b1 : (x19_3 != (t320.length : Int)) = true := bne_iff_ne.mpr c97
               obtain rfl := Option.some.inj H
               obtain ⟨Ao100, co100, eo100⟩ := Kd.R_slice HO_18.out
               subst eo100
               obtain ⟨Ao101, co101, eo101⟩ := Kd.R_slice HO_17.out
               subst eo101
               go_wp2
               go_ret
               exact ⟨by first | rfl | (simp [errW_none, errW_some] <;> rfl) | (simp only [← hji29]; first | rfl | (simp [errW_none, errW_some] <;> rfl)) | (simp [*, errW_none, errW_some] <;> rfl), by repeat (first | (with_reducible first | exact HB.out | apply below_alloc | apply pw_below_drewN | apply below_drew1 | refine below_set ?_ GE281.out | refine below_set ?_ GE296.out | refine below_set ?_ GE310.out) | exact HB.out)⟩
          ·rw [if_neg c62] at H
           exact absurd H (by simp)
         ·rw [if_neg c61] at H
          exact absurd H (by simp)
  ·replace c8 := Bool.eq_false_iff.mpr c8
   subst c8
   have H1 : (some true) = some r := by rw [if_neg (show ¬ (false = true) by decide)] at H; exact H
   clear H
   have H := H1
   clear H1
   obtain rfl := Option.some.inj H
   go_enter Try.func9, Try.ntmps9
   go_wp2_with (first | ((with_reducible refine gate_dst (N := 4) rfl ?_); (try (refine gate_guard (by rfl) ?_; dsimp only)); refine box_event ?hg (N := 4) ?hd (cs := #[.int .i64 a0_0, .int .i64 a0_1, .int .i64 a0_2, .int .i64 a0_3, .slice A0_4 l0_4.length c0_4, .bool a0_5]) (t := 24) ?hr ?_; (case hd => rfl); (case hg => rfl); (case hr => first | (go_simp; done) | (go_simp; rfl)); intro gb281 hg w102 hbox hb; have n0_ := Aside0.mk (below_step (by exact wU HB.out) hb); have n1_ := Aside0.mk (hbox); have n2_ := Aside0.mk ((by rw [hg]; exact (below_size (by exact wU HB.out)) : w.heap.size ≤ gb281)); have n3_ := Aside0.mk ((by rw [hg]; exact (below_size (by exact wU HB.out)) : w.heap.size ≤ gb281)); clear HB; have HB := n0_; have BK281 := n1_; have GW281 := n2_; have GE281 := n3_; clear n0_ n1_ n2_ n3_; clear hb hbox hg) | ((with_reducible refine gate_callee (f := 14) rfl ?_); refine goesL_ (some 21) rfl rfl Try.func14 (by kernel_rfl) rfl #[] rfl (by (try simp only [List.map_toArray, List.map_cons, List.map_nil]); first | done | rfl | (simp only [List.length_drop, List.length_take]; rfl)) ?_; (with_reducible refine (interlocutorlaw6_known.calls k  true _ A5.out).mono ?_); rintro e w103 ⟨rfl, hb⟩; refine ⟨_, rfl, ?_⟩; have n0_ := Aside0.mk (blk_below (g := gb281) (o := .cells #[.int .i64 a0_0, .int .i64 a0_1, .int .i64 a0_2, .int .i64 a0_3, .slice A0_4 l0_4.length c0_4, .bool a0_5] 24 (0, 0)) (by (with_reducible repeat (first | refine blk_drewN ?_ _ | refine blk_drew ?_ | refine blk_alloc ?_ _)); exact BK281.out) hb); have n1_ := Aside0.mk (below_step (by exact wS HB.out GE281.out) hb); clear BK281; clear HB; have BK281 := n0_; have HB := n1_; clear n0_ n1_; (try clear hb); (try clear hb2); (try clear hk); (try clear hi); have hcz104_0 : w103.cell? ⟨gb281, 0, none⟩ = some (.int .i64 a0_0) := (blk_cell BK281.out 0).trans rfl; have hcz104_1 : w103.cell? ⟨gb281, 1, none⟩ = some (.int .i64 a0_1) := (blk_cell BK281.out 1).trans rfl; have hcz104_2 : w103.cell? ⟨gb281, 2, none⟩ = some (.int .i64 a0_2) := (blk_cell BK281.out 2).trans rfl; have hcz104_3 : w103.cell? ⟨gb281, 3, none⟩ = some (.int .i64 a0_3) := (blk_cell BK281.out 3).trans rfl; have hcz104_4 : w103.cell? ⟨gb281, 4, none⟩ = some (.slice A0_4 l0_4.length c0_4) := (blk_cell BK281.out 4).trans rfl; have hcz104_5 : w103.cell? ⟨gb281, 5, none⟩ = some (.bool a0_5) := (blk_cell BK281.out 5).trans rfl; have hfz104_0 := blk_frozen BK281.out 0; have hfz104_1 := blk_frozen BK281.out 1; have hfz104_2 := blk_frozen BK281.out 2; have hfz104_3 := blk_frozen BK281.out 3; have hfz104_4 := blk_frozen BK281.out 4; have hfz104_5 := blk_frozen BK281.out 5) | ((with_reducible refine gate_callee (f := 15) rfl ?_); refine goesL_ (some 24) rfl rfl Try.func15 (by kernel_rfl) rfl #[.agg #[.int .i64 a0_0, .int .i64 a0_1, .int .i64 a0_2, .int .i64 a0_3, .slice A0_4 l0_4.length c0_4, .bool a0_5]] rfl (by (try simp only [List.map_toArray, List.map_cons, List.map_nil]); first | done | rfl | (simp only [List.length_drop, List.length_take]; rfl)) ?_; (with_reducible refine (interlocutorlaw5_Shape_Few.calls k a0_0 a0_1 a0_2 a0_3 _ _ l0_4 a0_5 false _ ?side1 ?side2 A7.out).mono ?_); (case side1 => repeat (first | exact (Kd.C_below HR0_4.out HB.out) | (with_reducible refine Kd.C_alloc ?_ _) | (with_reducible refine Kd.C_drewN ?_ _) | (with_reducible refine Kd.C_drew ?_))); (case side2 => exact HC0_4.out); rintro e w105 ⟨rfl, hb⟩; refine ⟨_, rfl, ?_⟩; have n0_ := Aside0.mk (blk_below (g := gb281) (o := .cells #[.int .i64 a0_0, .int .i64 a0_1, .int .i64 a0_2, .int .i64 a0_3, .slice A0_4 l0_4.length c0_4, .bool a0_5] 24 (0, 0)) (by (with_reducible repeat (first | refine blk_drewN ?_ _ | refine blk_drew ?_ | refine blk_alloc ?_ _)); exact BK281.out) hb); have n1_ := Aside0.mk (below_step (by exact wS HB.out GE281.out) hb); clear BK281; clear HB; have BK281 := n0_; have HB := n1_; clear n0_ n1_; (try clear hb); (try clear hb2); (try clear hk); (try clear hi)))
   go_ret
   exact ⟨by first | rfl | (simp [errW_none, errW_some] <;> rfl) | (simp [*, errW_none, errW_some] <;> rfl), by exact wS HB.out GE281.out⟩
 ·replace c6 := Bool.eq_false_iff.mpr c6
  subst c6
  have H1 : (some false) = some r := by rw [if_neg (show ¬ (false = true) by decide)] at H; exact H
  clear H
  have H := H1
  clear H1
  obtain rfl := Option.some.inj H
  go_enter Try.func9, Try.ntmps9
  go_wp2_with (first | ((with_reducible refine gate_dst (N := 4) rfl ?_); (try (refine gate_guard (by rfl) ?_; dsimp only)); refine box_event ?hg (N := 4) ?hd (cs := #[.int .i64 a0_0, .int .i64 a0_1, .int .i64 a0_2, .int .i64 a0_3, .slice A0_4 l0_4.length c0_4, .bool a0_5]) (t := 24) ?hr ?_; (case hd => rfl); (case hg => rfl); (case hr => first | (go_simp; done) | (go_simp; rfl)); intro gb281 hg w106 hbox hb; have n0_ := Aside0.mk (below_step (by exact wU HB.out) hb); have n1_ := Aside0.mk (hbox); have n2_ := Aside0.mk ((by rw [hg]; exact (below_size (by exact wU HB.out)) : w.heap.size ≤ gb281)); have n3_ := Aside0.mk ((by rw [hg]; exact (below_size (by exact wU HB.out)) : w.heap.size ≤ gb281)); clear HB; have HB := n0_; have BK281 := n1_; have GW281 := n2_; have GE281 := n3_; clear n0_ n1_ n2_ n3_; clear hb hbox hg) | ((with_reducible refine gate_callee (f := 14) rfl ?_); refine goesL_ (some 21) rfl rfl Try.func14 (by kernel_rfl) rfl #[] rfl (by (try simp only [List.map_toArray, List.map_cons, List.map_nil]); first | done | rfl | (simp only [List.length_drop, List.length_take]; rfl)) ?_; (with_reducible refine (interlocutorlaw6_known.calls k  false _ A5.out).mono ?_); rintro e w107 ⟨rfl, hb⟩; refine ⟨_, rfl, ?_⟩; have n0_ := Aside0.mk (blk_below (g := gb281) (o := .cells #[.int .i64 a0_0, .int .i64 a0_1, .int .i64 a0_2, .int .i64 a0_3, .slice A0_4 l0_4.length c0_4, .bool a0_5] 24 (0, 0)) (by (with_reducible repeat (first | refine blk_drewN ?_ _ | refine blk_drew ?_ | refine blk_alloc ?_ _)); exact BK281.out) hb); have n1_ := Aside0.mk (below_step (by exact wS HB.out GE281.out) hb); clear BK281; clear HB; have BK281 := n0_; have HB := n1_; clear n0_ n1_; (try clear hb); (try clear hb2); (try clear hk); (try clear hi)))
  go_ret
  exact ⟨by first | rfl | (simp [errW_none, errW_some] <;> rfl) | (simp [*, errW_none, errW_some] <;> rfl), by exact wS HB.out GE281.out⟩
end Go.Proofs.Ytgbnfjhmobeloaa.G
