import Derived.Test.YtgbnfjhmobeloaaGx0
import Derived.Test.YtgbnfjhmobeloaaGx15
import Derived.Test.YtgbnfjhmobeloaaGx17
import Derived.Test.YtgbnfjhmobeloaaGx18
namespace Go.Proofs.Ytgbnfjhmobeloaa.G
open Go.RowKit Go.Proofs.YtgbnfjhmobeloaaW.PrintWords Go.Proofs.YtgbnfjhmobeloaaW.PrintLast Go.Proofs.YtgbnfjhmobeloaaW.PrintMore Go.Proofs.YtgbnfjhmobeloaaW.VWords
attribute [local go_sem] max2_int min2_int max_two min_two max_three min_three max_four min_four
set_option linter.unusedVariables false
set_option linter.unusedSimpArgs false
mutual
def interlocutorref6_from.j1 : Nat → List (List Int) → List Int → Int → Int → List (S47) → Int → Int → ByteArray → Int → Int → List (S53) → List (S108) → List (S138) → Option ((List (S47)))
  | 0, _, _, _, _, _, _, _, _, _, _, _, _, _ => none
  | k + 1, x1, x2, x3, x4, x11, x12, x13, x266000, x266001, x266002, x266003, x266004, x266005 => if x13 > x4 then (interlocutorref6_from.j2 k x1 x2 x3 x4 x11 x12 x13 (decide ((wrap64 (x13 - x4)) ≤ 18)) x266000 x266001 x266002 x266003 x266004 x266005) else (interlocutorref6_from.j2 k x1 x2 x3 x4 x11 x12 x13 false x266000 x266001 x266002 x266003 x266004 x266005)
def interlocutorref6_from.j2 : Nat → List (List Int) → List Int → Int → Int → List (S47) → Int → Int → Bool → ByteArray → Int → Int → List (S53) → List (S108) → List (S138) → Option ((List (S47)))
  | 0, _, _, _, _, _, _, _, _, _, _, _, _, _, _ => none
  | k + 1, x1, x2, x3, x4, x11, x12, x13, x52, x266000, x266001, x266002, x266003, x266004, x266005 => if x52 = true then ((interlocutorref6_put.f k x11 x3 x13 0 x12 (wrap64 (x13 - x4))).bind fun t269 => (interlocutorref6_from.j3 k x1 x2 x3 x4 t269 x266000 x266001 x266002 x266003 x266004 x266005)) else (interlocutorref6_from.j3 k x1 x2 x3 x4 x11 x266000 x266001 x266002 x266003 x266004 x266005)
def interlocutorref6_from.j3 : Nat → List (List Int) → List Int → Int → Int → List (S47) → ByteArray → Int → Int → List (S53) → List (S108) → List (S138) → Option ((List (S47)))
  | 0, _, _, _, _, _, _, _, _, _, _, _ => none
  | k + 1, x1, x2, x3, x4, x11, x266000, x266001, x266002, x266003, x266004, x266005 => interlocutorref6_from.l1 k x1 x2 x3 x4 x11 0 x266000 x266001 x266002 x266003 x266004 x266005
def interlocutorref6_from.l1 : Nat → List (List Int) → List Int → Int → Int → List (S47) → Int → ByteArray → Int → Int → List (S53) → List (S108) → List (S138) → Option ((List (S47)))
  | 0, _, _, _, _, _, _, _, _, _, _, _, _ => none
  | k + 1, x1, x2, x3, x4, x11, x14, x266000, x266001, x266002, x266003, x266004, x266005 => if x14 < (x1.length : Int) then (if 0 ≤ x14 then ((interlocutorref6_stands.f k x2 x4 (rd_L6 x1 x14)).bind fun t273 => (if t273 = true then (if x14 < (x266003.length : Int) then ((interlocutorref6_put.f k x11 x3 (wrap64 (x4 + ((rd_L6 x1 x14).length : Int))) ((rd_T53 x266003 x14).f1) ((rd_T53 x266003 x14).f2) 0).bind fun t277 => (interlocutorref6_from.l1 k x1 x2 x3 x4 t277 (wrap64 (x14 + 1)) x266000 x266001 x266002 x266003 x266004 x266005)) else (none)) else (interlocutorref6_from.l1 k x1 x2 x3 x4 x11 (wrap64 (x14 + 1)) x266000 x266001 x266002 x266003 x266004 x266005))) else (none)) else (interlocutorref6_from.l2 k x2 x3 x4 x11 0)
def interlocutorref6_from.l2 : Nat → List Int → Int → Int → List (S47) → Int → Option ((List (S47)))
  | 0, _, _, _, _, _ => none
  | k + 1, x2, x3, x4, x11, x15 => if x15 < 11 then (if 0 ≤ x4 then (if x4 < (x2.length : Int) then (if 0 ≤ x15 then (if (rd x2 x4) = (wrap64 (bt (⟨#[47, 45, 46, 44, 58, 43, 36, 37, 40, 41, 39]⟩ : ByteArray) x15)) then ((interlocutorref6_put.f k x11 x3 (wrap64 (x4 + 1)) (wrap64 (50 + x15)) 0 0).bind fun t281 => (interlocutorref6_from.l2 k x2 x3 x4 t281 (wrap64 (x15 + 1)))) else (interlocutorref6_from.l2 k x2 x3 x4 x11 (wrap64 (x15 + 1)))) else (none)) else (none)) else (none)) else (some x11)
def interlocutorref6_from.l0 : Nat → List (List Int) → List Int → Int → Int → Int → Int → ByteArray → Int → Int → List (S53) → List (S108) → List (S138) → Option ((List (S47)))
  | 0, _, _, _, _, _, _, _, _, _, _, _, _ => none
  | k + 1, x1, x2, x3, x4, x12, x13, x266000, x266001, x266002, x266003, x266004, x266005 => if x13 < (x2.length : Int) then (if 0 ≤ x13 then ((interlocutorref6_digit.f (rd x2 x13)).bind fun t267 => (if t267 = true then (if (wrap64 (x13 - x4)) ≤ 18 then (interlocutorref6_from.l0 k x1 x2 x3 x4 (wrap64 ((wrap64 ((wrap64 (10 * x12)) + (rd x2 x13))) - 48)) (wrap64 (x13 + 1)) x266000 x266001 x266002 x266003 x266004 x266005) else (interlocutorref6_from.j1 k x1 x2 x3 x4 ([] : List (S47)) x12 x13 x266000 x266001 x266002 x266003 x266004 x266005)) else (interlocutorref6_from.j1 k x1 x2 x3 x4 ([] : List (S47)) x12 x13 x266000 x266001 x266002 x266003 x266004 x266005))) else (none)) else (interlocutorref6_from.j1 k x1 x2 x3 x4 ([] : List (S47)) x12 x13 x266000 x266001 x266002 x266003 x266004 x266005)
end
def interlocutorref6_from.f (k : Nat) (a0_0 : ByteArray) (a0_1 : Int) (a0_2 : Int) (l0_3 : List (S53)) (l0_4 : List (S108)) (l0_5 : List (S138)) (l1 : List (List Int)) (l2 : List Int) (a3 : Int) (a4 : Int) : Option ((List (S47))) := interlocutorref6_from.l0 k l1 l2 a3 a4 0 a4 a0_0 a0_1 a0_2 l0_3 l0_4 l0_5
theorem interlocutorref6_from.mono_l : ∀ k, (∀ y0 y1 y2 y3 y4 y5 y6 y7 y8 y9 y10 y11 y12, LeO (interlocutorref6_from.j1 k y0 y1 y2 y3 y4 y5 y6 y7 y8 y9 y10 y11 y12) (interlocutorref6_from.j1 (k + 1) y0 y1 y2 y3 y4 y5 y6 y7 y8 y9 y10 y11 y12)) ∧ (∀ y0 y1 y2 y3 y4 y5 y6 y7 y8 y9 y10 y11 y12 y13, LeO (interlocutorref6_from.j2 k y0 y1 y2 y3 y4 y5 y6 y7 y8 y9 y10 y11 y12 y13) (interlocutorref6_from.j2 (k + 1) y0 y1 y2 y3 y4 y5 y6 y7 y8 y9 y10 y11 y12 y13)) ∧ (∀ y0 y1 y2 y3 y4 y5 y6 y7 y8 y9 y10, LeO (interlocutorref6_from.j3 k y0 y1 y2 y3 y4 y5 y6 y7 y8 y9 y10) (interlocutorref6_from.j3 (k + 1) y0 y1 y2 y3 y4 y5 y6 y7 y8 y9 y10)) ∧ (∀ y0 y1 y2 y3 y4 y5 y6 y7 y8 y9 y10 y11, LeO (interlocutorref6_from.l1 k y0 y1 y2 y3 y4 y5 y6 y7 y8 y9 y10 y11) (interlocutorref6_from.l1 (k + 1) y0 y1 y2 y3 y4 y5 y6 y7 y8 y9 y10 y11)) ∧ (∀ y0 y1 y2 y3 y4, LeO (interlocutorref6_from.l2 k y0 y1 y2 y3 y4) (interlocutorref6_from.l2 (k + 1) y0 y1 y2 y3 y4)) ∧ (∀ y0 y1 y2 y3 y4 y5 y6 y7 y8 y9 y10 y11, LeO (interlocutorref6_from.l0 k y0 y1 y2 y3 y4 y5 y6 y7 y8 y9 y10 y11) (interlocutorref6_from.l0 (k + 1) y0 y1 y2 y3 y4 y5 y6 y7 y8 y9 y10 y11))
  | 0 => ⟨fun _ _ _ _ _ _ _ _ _ _ _ _ _ r h => by simp [interlocutorref6_from.j1] at h, fun _ _ _ _ _ _ _ _ _ _ _ _ _ _ r h => by simp [interlocutorref6_from.j2] at h, fun _ _ _ _ _ _ _ _ _ _ _ r h => by simp [interlocutorref6_from.j3] at h, fun _ _ _ _ _ _ _ _ _ _ _ _ r h => by simp [interlocutorref6_from.l1] at h, fun _ _ _ _ _ r h => by simp [interlocutorref6_from.l2] at h, fun _ _ _ _ _ _ _ _ _ _ _ _ r h => by simp [interlocutorref6_from.l0] at h⟩
  | k + 1 => by
    obtain ⟨ih0, ih1, ih2, ih3, ih4, ih5⟩ := interlocutorref6_from.mono_l k
    refine ⟨?_, ?_, ?_, ?_, ?_, ?_⟩
    · intro y0 y1 y2 y3 y4 y5 y6 y7 y8 y9 y10 y11 y12
      unfold interlocutorref6_from.j1
      repeat' first
      | (with_reducible exact ih0 _ _ _ _ _ _ _ _ _ _ _ _ _)
      | (with_reducible exact ih1 _ _ _ _ _ _ _ _ _ _ _ _ _ _)
      | (with_reducible exact ih2 _ _ _ _ _ _ _ _ _ _ _)
      | (with_reducible exact ih3 _ _ _ _ _ _ _ _ _ _ _ _)
      | (with_reducible exact ih4 _ _ _ _ _)
      | (with_reducible exact ih5 _ _ _ _ _ _ _ _ _ _ _ _)
      | (with_reducible exact interlocutorref6_put.mono _ _ _ _ _ _ _)
      | (with_reducible exact interlocutorref6_stands.mono _ _ _ _)
      | (with_reducible exact LeO.refl _)
      | (with_reducible exact LeO.none _)
      | (with_reducible refine LeO.ite ?_ ?_)
      | (with_reducible refine LeO.bind ?_ (fun _ => ?_))
      | exact ih0 _ _ _ _ _ _ _ _ _ _ _ _ _
      | exact ih1 _ _ _ _ _ _ _ _ _ _ _ _ _ _
      | exact ih2 _ _ _ _ _ _ _ _ _ _ _
      | exact ih3 _ _ _ _ _ _ _ _ _ _ _ _
      | exact ih4 _ _ _ _ _
      | exact ih5 _ _ _ _ _ _ _ _ _ _ _ _
      | exact interlocutorref6_put.mono _ _ _ _ _ _ _
      | exact interlocutorref6_stands.mono _ _ _ _
      | exact LeO.none _
      | refine LeO.ite ?_ ?_
      | refine LeO.bind ?_ (fun _ => ?_)
    · intro y0 y1 y2 y3 y4 y5 y6 y7 y8 y9 y10 y11 y12 y13
      unfold interlocutorref6_from.j2
      repeat' first
      | (with_reducible exact ih0 _ _ _ _ _ _ _ _ _ _ _ _ _)
      | (with_reducible exact ih1 _ _ _ _ _ _ _ _ _ _ _ _ _ _)
      | (with_reducible exact ih2 _ _ _ _ _ _ _ _ _ _ _)
      | (with_reducible exact ih3 _ _ _ _ _ _ _ _ _ _ _ _)
      | (with_reducible exact ih4 _ _ _ _ _)
      | (with_reducible exact ih5 _ _ _ _ _ _ _ _ _ _ _ _)
      | (with_reducible exact interlocutorref6_put.mono _ _ _ _ _ _ _)
      | (with_reducible exact interlocutorref6_stands.mono _ _ _ _)
      | (with_reducible exact LeO.refl _)
      | (with_reducible exact LeO.none _)
      | (with_reducible refine LeO.ite ?_ ?_)
      | (with_reducible refine LeO.bind ?_ (fun _ => ?_))
      | exact ih0 _ _ _ _ _ _ _ _ _ _ _ _ _
      | exact ih1 _ _ _ _ _ _ _ _ _ _ _ _ _ _
      | exact ih2 _ _ _ _ _ _ _ _ _ _ _
      | exact ih3 _ _ _ _ _ _ _ _ _ _ _ _
      | exact ih4 _ _ _ _ _
      | exact ih5 _ _ _ _ _ _ _ _ _ _ _ _
      | exact interlocutorref6_put.mono _ _ _ _ _ _ _
      | exact interlocutorref6_stands.mono _ _ _ _
      | exact LeO.none _
      | refine LeO.ite ?_ ?_
      | refine LeO.bind ?_ (fun _ => ?_)
    · intro y0 y1 y2 y3 y4 y5 y6 y7 y8 y9 y10
      unfold interlocutorref6_from.j3
      repeat' first
      | (with_reducible exact ih0 _ _ _ _ _ _ _ _ _ _ _ _ _)
      | (with_reducible exact ih1 _ _ _ _ _ _ _ _ _ _ _ _ _ _)
      | (with_reducible exact ih2 _ _ _ _ _ _ _ _ _ _ _)
      | (with_reducible exact ih3 _ _ _ _ _ _ _ _ _ _ _ _)
      | (with_reducible exact ih4 _ _ _ _ _)
      | (with_reducible exact ih5 _ _ _ _ _ _ _ _ _ _ _ _)
      | (with_reducible exact interlocutorref6_put.mono _ _ _ _ _ _ _)
      | (with_reducible exact interlocutorref6_stands.mono _ _ _ _)
      | (with_reducible exact LeO.refl _)
      | (with_reducible exact LeO.none _)
      | (with_reducible refine LeO.ite ?_ ?_)
      | (with_reducible refine LeO.bind ?_ (fun _ => ?_))
      | exact ih0 _ _ _ _ _ _ _ _ _ _ _ _ _
      | exact ih1 _ _ _ _ _ _ _ _ _ _ _ _ _ _
      | exact ih2 _ _ _ _ _ _ _ _ _ _ _
      | exact ih3 _ _ _ _ _ _ _ _ _ _ _ _
      | exact ih4 _ _ _ _ _
      | exact ih5 _ _ _ _ _ _ _ _ _ _ _ _
      | exact interlocutorref6_put.mono _ _ _ _ _ _ _
      | exact interlocutorref6_stands.mono _ _ _ _
      | exact LeO.none _
      | refine LeO.ite ?_ ?_
      | refine LeO.bind ?_ (fun _ => ?_)
    · intro y0 y1 y2 y3 y4 y5 y6 y7 y8 y9 y10 y11
      unfold interlocutorref6_from.l1
      repeat' first
      | (with_reducible exact ih0 _ _ _ _ _ _ _ _ _ _ _ _ _)
      | (with_reducible exact ih1 _ _ _ _ _ _ _ _ _ _ _ _ _ _)
      | (with_reducible exact ih2 _ _ _ _ _ _ _ _ _ _ _)
      | (with_reducible exact ih3 _ _ _ _ _ _ _ _ _ _ _ _)
      | (with_reducible exact ih4 _ _ _ _ _)
      | (with_reducible exact ih5 _ _ _ _ _ _ _ _ _ _ _ _)
      | (with_reducible exact interlocutorref6_put.mono _ _ _ _ _ _ _)
      | (with_reducible exact interlocutorref6_stands.mono _ _ _ _)
      | (with_reducible exact LeO.refl _)
      | (with_reducible exact LeO.none _)
      | (with_reducible refine LeO.ite ?_ ?_)
      | (with_reducible refine LeO.bind ?_ (fun _ => ?_))
      | exact ih0 _ _ _ _ _ _ _ _ _ _ _ _ _
      | exact ih1 _ _ _ _ _ _ _ _ _ _ _ _ _ _
      | exact ih2 _ _ _ _ _ _ _ _ _ _ _
      | exact ih3 _ _ _ _ _ _ _ _ _ _ _ _
      | exact ih4 _ _ _ _ _
      | exact ih5 _ _ _ _ _ _ _ _ _ _ _ _
      | exact interlocutorref6_put.mono _ _ _ _ _ _ _
      | exact interlocutorref6_stands.mono _ _ _ _
      | exact LeO.none _
      | refine LeO.ite ?_ ?_
      | refine LeO.bind ?_ (fun _ => ?_)
    · intro y0 y1 y2 y3 y4
      unfold interlocutorref6_from.l2
      repeat' first
      | (with_reducible exact ih0 _ _ _ _ _ _ _ _ _ _ _ _ _)
      | (with_reducible exact ih1 _ _ _ _ _ _ _ _ _ _ _ _ _ _)
      | (with_reducible exact ih2 _ _ _ _ _ _ _ _ _ _ _)
      | (with_reducible exact ih3 _ _ _ _ _ _ _ _ _ _ _ _)
      | (with_reducible exact ih4 _ _ _ _ _)
      | (with_reducible exact ih5 _ _ _ _ _ _ _ _ _ _ _ _)
      | (with_reducible exact interlocutorref6_put.mono _ _ _ _ _ _ _)
      | (with_reducible exact interlocutorref6_stands.mono _ _ _ _)
      | (with_reducible exact LeO.refl _)
      | (with_reducible exact LeO.none _)
      | (with_reducible refine LeO.ite ?_ ?_)
      | (with_reducible refine LeO.bind ?_ (fun _ => ?_))
      | exact ih0 _ _ _ _ _ _ _ _ _ _ _ _ _
      | exact ih1 _ _ _ _ _ _ _ _ _ _ _ _ _ _
      | exact ih2 _ _ _ _ _ _ _ _ _ _ _
      | exact ih3 _ _ _ _ _ _ _ _ _ _ _ _
      | exact ih4 _ _ _ _ _
      | exact ih5 _ _ _ _ _ _ _ _ _ _ _ _
      | exact interlocutorref6_put.mono _ _ _ _ _ _ _
      | exact interlocutorref6_stands.mono _ _ _ _
      | exact LeO.none _
      | refine LeO.ite ?_ ?_
      | refine LeO.bind ?_ (fun _ => ?_)
    · intro y0 y1 y2 y3 y4 y5 y6 y7 y8 y9 y10 y11
      unfold interlocutorref6_from.l0
      repeat' first
      | (with_reducible exact ih0 _ _ _ _ _ _ _ _ _ _ _ _ _)
      | (with_reducible exact ih1 _ _ _ _ _ _ _ _ _ _ _ _ _ _)
      | (with_reducible exact ih2 _ _ _ _ _ _ _ _ _ _ _)
      | (with_reducible exact ih3 _ _ _ _ _ _ _ _ _ _ _ _)
      | (with_reducible exact ih4 _ _ _ _ _)
      | (with_reducible exact ih5 _ _ _ _ _ _ _ _ _ _ _ _)
      | (with_reducible exact interlocutorref6_put.mono _ _ _ _ _ _ _)
      | (with_reducible exact interlocutorref6_stands.mono _ _ _ _)
      | (with_reducible exact LeO.refl _)
      | (with_reducible exact LeO.none _)
      | (with_reducible refine LeO.ite ?_ ?_)
      | (with_reducible refine LeO.bind ?_ (fun _ => ?_))
      | exact ih0 _ _ _ _ _ _ _ _ _ _ _ _ _
      | exact ih1 _ _ _ _ _ _ _ _ _ _ _ _ _ _
      | exact ih2 _ _ _ _ _ _ _ _ _ _ _
      | exact ih3 _ _ _ _ _ _ _ _ _ _ _ _
      | exact ih4 _ _ _ _ _
      | exact ih5 _ _ _ _ _ _ _ _ _ _ _ _
      | exact interlocutorref6_put.mono _ _ _ _ _ _ _
      | exact interlocutorref6_stands.mono _ _ _ _
      | exact LeO.none _
      | refine LeO.ite ?_ ?_
      | refine LeO.bind ?_ (fun _ => ?_)
theorem interlocutorref6_from.mono : ∀ a0 a1 a2 a3 a4 a5 a6 a7 a8 a9 k, LeO (interlocutorref6_from.f k a0 a1 a2 a3 a4 a5 a6 a7 a8 a9) (interlocutorref6_from.f (k + 1) a0 a1 a2 a3 a4 a5 a6 a7 a8 a9) := by
  intro a0 a1 a2 a3 a4 a5 a6 a7 a8 a9 k
  obtain ⟨ih0, ih1, ih2, ih3, ih4, ih5⟩ := interlocutorref6_from.mono_l k
  unfold interlocutorref6_from.f
  repeat' first
      | (with_reducible exact ih0 _ _ _ _ _ _ _ _ _ _ _ _ _)
      | (with_reducible exact ih1 _ _ _ _ _ _ _ _ _ _ _ _ _ _)
      | (with_reducible exact ih2 _ _ _ _ _ _ _ _ _ _ _)
      | (with_reducible exact ih3 _ _ _ _ _ _ _ _ _ _ _ _)
      | (with_reducible exact ih4 _ _ _ _ _)
      | (with_reducible exact ih5 _ _ _ _ _ _ _ _ _ _ _ _)
      | (with_reducible exact interlocutorref6_put.mono _ _ _ _ _ _ _)
      | (with_reducible exact interlocutorref6_stands.mono _ _ _ _)
      | (with_reducible exact LeO.refl _)
      | (with_reducible exact LeO.none _)
      | (with_reducible refine LeO.ite ?_ ?_)
      | (with_reducible refine LeO.bind ?_ (fun _ => ?_))
      | exact ih0 _ _ _ _ _ _ _ _ _ _ _ _ _
      | exact ih1 _ _ _ _ _ _ _ _ _ _ _ _ _ _
      | exact ih2 _ _ _ _ _ _ _ _ _ _ _
      | exact ih3 _ _ _ _ _ _ _ _ _ _ _ _
      | exact ih4 _ _ _ _ _
      | exact ih5 _ _ _ _ _ _ _ _ _ _ _ _
      | exact interlocutorref6_put.mono _ _ _ _ _ _ _
      | exact interlocutorref6_stands.mono _ _ _ _
      | exact LeO.none _
      | refine LeO.ite ?_ ?_
      | refine LeO.bind ?_ (fun _ => ?_)
def interlocutorref6_from.T12 : Bool × List (List Nat × List Nat) := (true, [([], []), ([], []), ([], []), ([], []), ([], []), ([3, 4], [3, 4]), ([5], [5]), ([6], [6]), ([2, 7], [2, 7]), ([], []), ([9], [9]), ([], []), ([10, 11], [10, 11]), ([12], [12]), ([13], [13]), ([], []), ([15], [15]), ([], []), ([16, 17], [16, 17]), ([18], [18]), ([19], [19]), ([1, 8, 14, 20], [1, 8, 14, 20]), ([0, 21], [0, 21]), ([22, 22, 0, 1, 2, 3, 4, 5, 6, 7, 8, 9, 10, 11, 12, 13, 14, 15, 16, 17, 18, 19, 20, 21, 22], [0, 22])])
def interlocutorref6_from.B12 : List Nat := [0, 0, 0, 0, 0, 24, 56, 120, 252, 0, 512, 0, 3584, 7680, 15872, 0, 32768, 0, 229376, 491520, 1015808, 2097150, 4194303, 8388607]
theorem interlocutorref6_from.tab12 : rtab .any (opsOf Try.f44 12) = interlocutorref6_from.T12 := by kernel_rfl
theorem interlocutorref6_from.bits12 : waitsOk interlocutorref6_from.T12.2 interlocutorref6_from.B12 = true := by kernel_rfl
def interlocutorref6_from.T16 : Bool × List (List Nat × List Nat) := (true, [([], []), ([], []), ([0, 1], [0, 1]), ([2], [2]), ([], []), ([4], [4]), ([5], [5]), ([3, 6], [3, 6])])
def interlocutorref6_from.B16 : List Nat := [0, 0, 3, 7, 0, 16, 48, 127]
theorem interlocutorref6_from.tab16 : rtab .any (opsOf Try.f44 16) = interlocutorref6_from.T16 := by kernel_rfl
theorem interlocutorref6_from.bits16 : waitsOk interlocutorref6_from.T16.2 interlocutorref6_from.B16 = true := by kernel_rfl
set_option maxHeartbeats 8000000 in
set_option maxRecDepth 100000 in
theorem interlocutorref6_from.calls (k : Nat) (a0_0 : ByteArray) (a0_1 : Int) (a0_2 : Int) (A0_3 : Option Addr) (c0_3 : Nat) (l0_3 : List (S53)) (A0_4 : Option Addr) (c0_4 : Nat) (l0_4 : List (S108)) (A0_5 : Option Addr) (c0_5 : Nat) (l0_5 : List (S138)) (A1 : Option Addr) (c1 : Nat) (l1 : List (List Int)) (A2 : Option Addr) (c2 : Nat) (l2 : List Int) (a3 : Int) (a4 : Int) (r : List (S47)) (w : World) (hr0_3 : Kd.C k53 w A0_3 l0_3.length l0_3) (hc0_3 : l0_3.length ≤ c0_3) (hr0_4 : Kd.C k108 w A0_4 l0_4.length l0_4) (hc0_4 : l0_4.length ≤ c0_4) (hr0_5 : Kd.C k138 w A0_5 l0_5.length l0_5) (hc0_5 : l0_5.length ≤ c0_5) (hr1 : Kd.C (Kd.slice 3 (Kd.int .i64)) w A1 l1.length l1) (hc1 : l1.length ≤ c1) (hr2 : Kd.C (Kd.int .i64) w A2 l2.length l2) (hc2 : l2.length ≤ c2) (h : interlocutorref6_from.f k a0_0 a0_1 a0_2 l0_3 l0_4 l0_5 l1 l2 a3 a4 = some r) :
    Calls Try.prog 44 #[.agg #[.string a0_0, .int .i64 a0_1, .int .i64 a0_2, .slice A0_3 l0_3.length c0_3, .slice A0_4 l0_4.length c0_4, .slice A0_5 l0_5.length c0_5], .slice A1 l1.length c1, .slice A2 l2.length c2, .int .i64 a3, .int .i64 a4] w fun e w' => ∃ v0_ : Value, e = .returned (v0_) ∧ Kd.V k47 47 w' w.heap.size (fun k_ => (w.heap.size ≤ k_)) v0_ r ∧ Below w.heap.size w w' := by
  have hu32 := Try.underlying32
  have hu47 := Try.underlying47
  have HR0_3 := Aside0.mk hr0_3
  have HC0_3 := Aside0.mk hc0_3
  clear hr0_3 hc0_3
  have HR0_4 := Aside0.mk hr0_4
  have HC0_4 := Aside0.mk hc0_4
  clear hr0_4 hc0_4
  have HR0_5 := Aside0.mk hr0_5
  have HC0_5 := Aside0.mk hc0_5
  clear hr0_5 hc0_5
  have HR1 := Aside0.mk hr1
  have HC1 := Aside0.mk hc1
  clear hr1 hc1
  have HR2 := Aside0.mk hr2
  have HC2 := Aside0.mk hc2
  clear hr2 hc2
  have HB := Aside0.mk (Below.refl w.heap.size w)
  have H : (interlocutorref6_from.l0 k l1 l2 a3 a4 0 a4 a0_0 a0_1 a0_2 l0_3 l0_4 l0_5) = some r := h
  clear h
  have HC6 := Aside0.mk H
  clear H
  go_enter Try.func44, Try.ntmps44
  go_upto_block 0 with (first | ((with_reducible refine gate_dst (N := 5) rfl ?_); refine box_event ?hg (N := 5) ?hd (cs := #[.string a0_0, .int .i64 a0_1, .int .i64 a0_2, .slice A0_3 l0_3.length c0_3, .slice A0_4 l0_4.length c0_4, .slice A0_5 l0_5.length c0_5]) (t := 32) ?hr ?_; (case hd => rfl); (case hg => rfl); (case hr => first | (go_simp; done) | (go_simp; rfl)); intro gb265 hg w7 hbox hb; have n0_ := Aside0.mk (below_step (by exact wU HB.out) hb); have n1_ := Aside0.mk (hbox); have n2_ := Aside0.mk ((by rw [hg]; exact (below_size (by exact wU HB.out)) : w.heap.size ≤ gb265)); have n3_ := Aside0.mk ((by rw [hg]; exact (below_size (by exact wU HB.out)) : w.heap.size ≤ gb265)); clear HB; have HB := n0_; have BK265 := n1_; have GW265 := n2_; have GE265 := n3_; clear n0_ n1_ n2_ n3_; clear hb hbox hg))
  (try simp only [Act.put, List.setIfInBounds_toArray, List.set_cons_zero, List.set_cons_succ])
  go_cut [12, 13] (fun v12 v13 wc => ∃ (kq : Nat) (x12_5 : Int) (x13_5 : Int), v12 = .int .i64 x12_5 ∧ v13 = .int .i64 x13_5 ∧ Aside0 (interlocutorref6_from.j1 kq l1 l2 a3 a4 ([] : List (S47)) x12_5 x13_5 a0_0 a0_1 a0_2 l0_3 l0_4 l0_5 = some r) ∧ Aside0 (kq ≤ k) ∧ Aside0 (Kd.R k47 47 wc w.heap.size (fun k_ => (w.heap.size ≤ k_)) (.slice none 0 0) ([] : List (S47))) ∧ Aside0 (wc.heap[gb265]? = some (.cells #[.string a0_0, .int .i64 a0_1, .int .i64 a0_2, (.slice A0_3 l0_3.length c0_3), (.slice A0_4 l0_4.length c0_4), (.slice A0_5 l0_5.length c0_5)] 32 (0, 0))) ∧ Aside0 (Below w.heap.size w wc))
  case first =>
    have H := HC6.out
    clear HC6
    have H' := Aside0.mk H
    clear H
    go_wp2
    go_loopg [12, 13] k (fun kq v12 v13 w' => ∃ (x12_1 : Int) (x13_1 : Int), v12 = .int .i64 x12_1 ∧ v13 = .int .i64 x13_1 ∧ Aside0 (interlocutorref6_from.l0 kq l1 l2 a3 a4 x12_1 x13_1 a0_0 a0_1 a0_2 l0_3 l0_4 l0_5 = some r) ∧ Aside0 (kq ≤ k) ∧ Aside0 (w'.heap[gb265]? = some (.cells #[.string a0_0, .int .i64 a0_1, .int .i64 a0_2, (.slice A0_3 l0_3.length c0_3), (.slice A0_4 l0_4.length c0_4), (.slice A0_5 l0_5.length c0_5)] 32 (0, 0))) ∧ Aside0 (Below w.heap.size w w'))
    case atStart => exact ⟨(0), (a4), (by first | rfl | (simp; done) | (simp [*]; done)), (by first | rfl | (simp; done) | (simp [*]; done)), H', ⟨Nat.le_refl _⟩, ⟨by (with_reducible repeat (first | refine blk_drewN ?_ _ | refine blk_drew ?_ | refine blk_alloc ?_ _)); exact BK265.out⟩, ⟨by exact wS HB.out GE265.out⟩⟩
    case round =>
      clear H'
      try clear c1
      try clear c2
      try clear p2
      try clear c4
      obtain ⟨x12_1, x13_1, rfl, rfl, HA, HK1, BK265, HB⟩ := hrel
      cases gk with
      | zero => exact absurd HA.out (by simp [interlocutorref6_from.l0])
      | succ k1 =>
        have H := HA.out
        clear HA
        simp only [interlocutorref6_from.l0] at H
        by_cases c8 : x13_1 < (l2.length : Int)
        · rw [if_pos c8] at H
          have c8b0 : decide (x13_1 < (l2.length : Int)) = true := decide_eq_true c8
          clear c8
          (first | rw [c8b0] | (simp only [i64_w, i32_w]; rw [c8b0]) | skip)
          by_cases c9 : 0 ≤ x13_1
          · rw [if_pos c9] at H
            have c9b0 : decide (0 ≤ x13_1) = true := decide_eq_true c9
            clear c9
            replace H := Option.bind_eq_some_iff.mp H
            obtain ⟨t267, A100, H⟩ := H
            replace H : (if t267 = true then (if (wrap64 (x13_1 - a4)) ≤ 18 then (interlocutorref6_from.l0 k1 l1 l2 a3 a4 (wrap64 ((wrap64 ((wrap64 (10 * x12_1)) + (rd l2 x13_1))) - 48)) (wrap64 (x13_1 + 1)) a0_0 a0_1 a0_2 l0_3 l0_4 l0_5) else (interlocutorref6_from.j1 k1 l1 l2 a3 a4 ([] : List (S47)) x12_1 x13_1 a0_0 a0_1 a0_2 l0_3 l0_4 l0_5)) else (interlocutorref6_from.j1 k1 l1 l2 a3 a4 ([] : List (S47)) x12_1 x13_1 a0_0 a0_1 a0_2 l0_3 l0_4 l0_5)) = some r := H
            have A10 := Aside0.mk A100
            clear A100
            by_cases c11 : t267 = true
            · subst c11
              have H1 : (if (wrap64 (x13_1 - a4)) ≤ 18 then (interlocutorref6_from.l0 k1 l1 l2 a3 a4 (wrap64 ((wrap64 ((wrap64 (10 * x12_1)) + (rd l2 x13_1))) - 48)) (wrap64 (x13_1 + 1)) a0_0 a0_1 a0_2 l0_3 l0_4 l0_5) else (interlocutorref6_from.j1 k1 l1 l2 a3 a4 ([] : List (S47)) x12_1 x13_1 a0_0 a0_1 a0_2 l0_3 l0_4 l0_5)) = some r := by rw [if_pos rfl] at H; exact H
              clear H
              have H := H1
              clear H1
              by_cases c12 : (wrap64 (x13_1 - a4)) ≤ 18
              · rw [if_pos c12] at H
                have c12b0 : decide ((wrap64 (x13_1 - a4)) ≤ 18) = true := decide_eq_true c12
                clear c12
                have H' := Aside0.mk H
                clear H
                have p266 : 0 ≤ (x13_1 : Int) := of_decide_eq_true (by first | (with_reducible assumption) | assumption)
                have q266 : x13_1 < (l2.length : Int) := of_decide_eq_true (by first | (with_reducible assumption) | assumption)
                obtain ⟨ad266, e266, hx266_0⟩ := Kd.at_int HR2.out x13_1 p266 q266
                cases e266
                replace hx266_0 := (HB.out.cell (World.block_lt_of_cell? w _ hx266_0)).trans hx266_0
                replace p266 := eq_true p266
                replace q266 := eq_true q266
                go_wp2_with (first | (go_at_call 65; (with_reducible refine (interlocutorref6_digit.calls (rd l2 x13_1) true _ A10.out).mono ?_); rintro e w' ⟨rfl, ⟨nd, rfl⟩⟩; have p268 : 0 ≤ (x13_1 : Int) := of_decide_eq_true (by first | (with_reducible assumption) | assumption); have q268 : x13_1 < (l2.length : Int) := of_decide_eq_true (by first | (with_reducible assumption) | assumption); obtain ⟨ad268, e268, hx268_0⟩ := Kd.at_int HR2.out x13_1 p268 q268; obtain rfl : ad266 = ad268 := (by injection e268); replace hx268_0 := (HB.out.cell (World.block_lt_of_cell? w _ hx268_0)).trans hx268_0; replace p268 := eq_true p268; replace q268 := eq_true q268))
                go_roundg k1
                case measure => have := HK1.out; omega
                case rel => exact ⟨(wrap64 ((wrap64 ((wrap64 (10 * x12_1)) + (rd l2 x13_1))) - 48)), (wrap64 (x13_1 + 1)), (by first | rfl | (simp; done) | (simp [*]; done)), (by first | rfl | (simp; done) | (simp [*]; done)), H', ⟨by have := HK1.out; omega⟩, ⟨by (with_reducible repeat (first | refine blk_drewN ?_ _ | refine blk_drew ?_ | refine blk_alloc ?_ _)); exact BK265.out⟩, ⟨by exact wS HB.out GE265.out⟩⟩
              · rw [if_neg c12] at H
                have c12b0 : decide ((wrap64 (x13_1 - a4)) ≤ 18) = false := decide_eq_false c12
                clear c12
                have H' := Aside0.mk H
                clear H
                have p266 : 0 ≤ (x13_1 : Int) := of_decide_eq_true (by first | (with_reducible assumption) | assumption)
                have q266 : x13_1 < (l2.length : Int) := of_decide_eq_true (by first | (with_reducible assumption) | assumption)
                obtain ⟨ad266, e266, hx266_0⟩ := Kd.at_int HR2.out x13_1 p266 q266
                cases e266
                replace hx266_0 := (HB.out.cell (World.block_lt_of_cell? w _ hx266_0)).trans hx266_0
                replace p266 := eq_true p266
                replace q266 := eq_true q266
                go_wp2_with (first | (go_at_call 65; (with_reducible refine (interlocutorref6_digit.calls (rd l2 x13_1) true _ A10.out).mono ?_); rintro e w' ⟨rfl, ⟨nd, rfl⟩⟩))
                go_meet
                case rel => exact ⟨_, (x12_1), (x13_1), (by first | rfl | (simp; done) | (simp [*]; done)), (by first | rfl | (simp; done) | (simp [*]; done)), H', ⟨by have := HK1.out; first | omega | exact Nat.le_refl _⟩, ⟨by first | exact Kd.R_nil _ _ _ _ _ | exact Kd.N_nil _ _ _ _ _ | exact Kd.V_nil _ _ _ _ _ | exact Kd.Q_nil _ _ _ _ _ | exact Kd.S_nil _ _ _ _ _⟩, ⟨by (with_reducible repeat (first | refine blk_drewN ?_ _ | refine blk_drew ?_ | refine blk_alloc ?_ _)); exact BK265.out⟩, ⟨by exact wS HB.out GE265.out⟩⟩
            · replace c11 := Bool.eq_false_iff.mpr c11
              subst c11
              have H1 : (interlocutorref6_from.j1 k1 l1 l2 a3 a4 ([] : List (S47)) x12_1 x13_1 a0_0 a0_1 a0_2 l0_3 l0_4 l0_5) = some r := by rw [if_neg (show ¬ (false = true) by decide)] at H; exact H
              clear H
              have H := H1
              clear H1
              have H' := Aside0.mk H
              clear H
              have p266 : 0 ≤ (x13_1 : Int) := of_decide_eq_true (by first | (with_reducible assumption) | assumption)
              have q266 : x13_1 < (l2.length : Int) := of_decide_eq_true (by first | (with_reducible assumption) | assumption)
              obtain ⟨ad266, e266, hx266_0⟩ := Kd.at_int HR2.out x13_1 p266 q266
              cases e266
              replace hx266_0 := (HB.out.cell (World.block_lt_of_cell? w _ hx266_0)).trans hx266_0
              replace p266 := eq_true p266
              replace q266 := eq_true q266
              go_wp2_with (first | (go_at_call 65; (with_reducible refine (interlocutorref6_digit.calls (rd l2 x13_1) false _ A10.out).mono ?_); rintro e w' ⟨rfl, ⟨nd, rfl⟩⟩))
              go_meet
              case rel => exact ⟨_, (x12_1), (x13_1), (by first | rfl | (simp; done) | (simp [*]; done)), (by first | rfl | (simp; done) | (simp [*]; done)), H', ⟨by have := HK1.out; first | omega | exact Nat.le_refl _⟩, ⟨by first | exact Kd.R_nil _ _ _ _ _ | exact Kd.N_nil _ _ _ _ _ | exact Kd.V_nil _ _ _ _ _ | exact Kd.Q_nil _ _ _ _ _ | exact Kd.S_nil _ _ _ _ _⟩, ⟨by (with_reducible repeat (first | refine blk_drewN ?_ _ | refine blk_drew ?_ | refine blk_alloc ?_ _)); exact BK265.out⟩, ⟨by exact wS HB.out GE265.out⟩⟩
          · rw [if_neg c9] at H
            exact absurd H (by simp)
        · rw [if_neg c8] at H
          have c8b0 : decide (x13_1 < (l2.length : Int)) = false := decide_eq_false c8
          clear c8
          (first | rw [c8b0] | (simp only [i64_w, i32_w]; rw [c8b0]) | skip)
          have H' := Aside0.mk H
          clear H
          go_wp2
          go_meet
          case rel => exact ⟨_, (x12_1), (x13_1), (by first | rfl | (simp; done) | (simp [*]; done)), (by first | rfl | (simp; done) | (simp [*]; done)), H', ⟨by have := HK1.out; first | omega | exact Nat.le_refl _⟩, ⟨by first | exact Kd.R_nil _ _ _ _ _ | exact Kd.N_nil _ _ _ _ _ | exact Kd.V_nil _ _ _ _ _ | exact Kd.Q_nil _ _ _ _ _ | exact Kd.S_nil _ _ _ _ _⟩, ⟨by (with_reducible repeat (first | refine blk_drewN ?_ _ | refine blk_drew ?_ | refine blk_alloc ?_ _)); exact BK265.out⟩, ⟨by exact wS HB.out GE265.out⟩⟩
  case rest =>
    clear HC6
    try clear c1
    try clear c2
    try clear p2
    try clear q2
    try clear hx2
    try clear c4
    try clear p6
    try clear c8
    try clear c8b0
    try clear c9
    try clear c9b0
    try clear c11
    try clear c12
    try clear c12b0
    try clear hx266_0
    try clear hx268_0
    try clear p2
    try clear p266
    try clear p268
    try clear q266
    try clear q268
    obtain ⟨kq, x12_5, x13_5, rfl, rfl, HA, HJ5, HO_11, BK265, HB⟩ := hcut
    cases kq with
    | zero => exact absurd HA.out (by simp [interlocutorref6_from.j1])
    | succ kj5 =>
      have H := HA.out
      clear HA
      simp only [interlocutorref6_from.j1] at H
      have HC13 := Aside0.mk H
      clear H
      go_upto_region 6 with (fail)
      go_cut [52] (fun v52 wc => ∃ (kq : Nat) (x52_12 : Bool), v52 = .bool x52_12 ∧ Aside0 (interlocutorref6_from.j2 kq l1 l2 a3 a4 ([] : List (S47)) x12_5 x13_5 x52_12 a0_0 a0_1 a0_2 l0_3 l0_4 l0_5 = some r) ∧ Aside0 (kq ≤ kj5) ∧ Aside0 (Kd.R k47 47 wc w.heap.size (fun k_ => (w.heap.size ≤ k_)) (.slice none 0 0) ([] : List (S47))) ∧ Aside0 (wc.heap[gb265]? = some (.cells #[.string a0_0, .int .i64 a0_1, .int .i64 a0_2, (.slice A0_3 l0_3.length c0_3), (.slice A0_4 l0_4.length c0_4), (.slice A0_5 l0_5.length c0_5)] 32 (0, 0))) ∧ Aside0 (Below w.heap.size w wc))
      case first =>
        have H := HC13.out
        clear HC13
        by_cases c14 : x13_5 > a4
        · rw [if_pos c14] at H
          have c14b0 : decide (a4 < x13_5) = true := decide_eq_true c14
          clear c14
          (first | rw [c14b0] | (simp only [i64_w, i32_w]; rw [c14b0]) | skip)
          have H' := Aside0.mk H
          clear H
          go_wp2
          go_meet
          case rel => exact ⟨_, (decide ((wrap64 (x13_5 - a4)) ≤ 18)), (by first | rfl | (simp; done) | (simp [*]; done)), H', ⟨by have := HJ5.out; first | omega | exact Nat.le_refl _⟩, ⟨by (with_reducible repeat (first | apply Kd.R_alloc | apply Kd.R_drewN | apply Kd.R_drew)); exact HO_11.out⟩, ⟨by (with_reducible repeat (first | refine blk_drewN ?_ _ | refine blk_drew ?_ | refine blk_alloc ?_ _)); exact BK265.out⟩, ⟨by exact wS HB.out GE265.out⟩⟩
        · rw [if_neg c14] at H
          have c14b0 : decide (a4 < x13_5) = false := decide_eq_false c14
          clear c14
          (first | rw [c14b0] | (simp only [i64_w, i32_w]; rw [c14b0]) | skip)
          have H' := Aside0.mk H
          clear H
          go_wp2
          go_meet
          case rel => exact ⟨_, (false), (by first | rfl | (simp; done) | (simp [*]; done)), H', ⟨by have := HJ5.out; first | omega | exact Nat.le_refl _⟩, ⟨by (with_reducible repeat (first | apply Kd.R_alloc | apply Kd.R_drewN | apply Kd.R_drew)); exact HO_11.out⟩, ⟨by (with_reducible repeat (first | refine blk_drewN ?_ _ | refine blk_drew ?_ | refine blk_alloc ?_ _)); exact BK265.out⟩, ⟨by exact wS HB.out GE265.out⟩⟩
      case rest =>
        clear HC13
        try clear c1
        try clear c2
        try clear p2
        try clear q2
        try clear hx2
        try clear c4
        try clear p6
        try clear c8
        try clear c8b0
        try clear c9
        try clear c9b0
        try clear c11
        try clear c12
        try clear c12b0
        try clear c14
        try clear c14b0
        try clear hx266_0
        try clear hx268_0
        try clear p2
        try clear p266
        try clear p268
        try clear p6
        try clear q2
        try clear q266
        try clear q268
        obtain ⟨kq, x52_12, rfl, HA, HJ12, HO_11, BK265, HB⟩ := hcut
        cases kq with
        | zero => exact absurd HA.out (by simp [interlocutorref6_from.j2])
        | succ kj12 =>
          have H := HA.out
          clear HA
          simp only [interlocutorref6_from.j2] at H
          have HC15 := Aside0.mk H
          clear H
          go_upto_if 52 with (fail)
          go_cut [11] (fun v11 wc => ∃ (kq : Nat) (x11_14 : List (S47)), Aside0 (interlocutorref6_from.j3 kq l1 l2 a3 a4 x11_14 a0_0 a0_1 a0_2 l0_3 l0_4 l0_5 = some r) ∧ Aside0 (kq ≤ kj12) ∧ Aside0 (Kd.V k47 47 wc w.heap.size (fun k_ => (w.heap.size ≤ k_) ∧ k_ ≠ gb265) v11 x11_14) ∧ Aside0 (wc.heap[gb265]? = some (.cells #[.string a0_0, .int .i64 a0_1, .int .i64 a0_2, (.slice A0_3 l0_3.length c0_3), (.slice A0_4 l0_4.length c0_4), (.slice A0_5 l0_5.length c0_5)] 32 (0, 0))) ∧ Aside0 (Below w.heap.size w wc))
          case first =>
            have H := HC15.out
            clear HC15
            by_cases c16 : x52_12 = true
            · subst c16
              have H1 : ((interlocutorref6_put.f kj12 ([] : List (S47)) a3 x13_5 0 x12_5 (wrap64 (x13_5 - a4))).bind fun t269 => (interlocutorref6_from.j3 kj12 l1 l2 a3 a4 t269 a0_0 a0_1 a0_2 l0_3 l0_4 l0_5)) = some r := by rw [if_pos rfl] at H; exact H
              clear H
              have H := H1
              clear H1
              replace H := Option.bind_eq_some_iff.mp H
              obtain ⟨t269, A170, H⟩ := H
              replace H : (interlocutorref6_from.j3 kj12 l1 l2 a3 a4 t269 a0_0 a0_1 a0_2 l0_3 l0_4 l0_5) = some r := H
              have A17 := Aside0.mk A170
              clear A170
              have H' := Aside0.mk H
              clear H
              go_wp2_with (first | ((with_reducible refine gate_callee (f := 66) rfl ?_); refine goesL_ (some 61) rfl rfl Try.func66 (by kernel_rfl) rfl #[.slice none ([] : List (S47)).length 0, .agg #[.int .i64 a3, .int .i64 x13_5, .int .i64 0, .int .i64 x12_5, .int .i64 (wrap64 (x13_5 - a4))]] rfl (by (try simp only [List.map_toArray, List.map_cons, List.map_nil]); first | done | (rw [show ([] : List (S47)).length = 0 from (Kd.R_reads' HO_11.out).1.symm] <;> rfl) | rfl | (simp only [List.length_drop, List.length_take]; rfl)) ?_; (with_reducible refine (interlocutorref6_put.calls kj12 (fun k_ => some k_ = (.slice none 0 0 : Value).ownBlock) _ _ ([] : List (S47)) a3 x13_5 0 x12_5 (wrap64 (x13_5 - a4)) t269 _ ?side1 A17.out).mono ?_); (case side1 => rw [show ([] : List (S47)).length = 0 from (Kd.R_reads' HO_11.out).1.symm]; exact Kd.R_V (Kd.R_tight rfl (Kd.R_types (HO_11.out) BK265.out (by decide)))); rintro e w18 ⟨v270, rfl, ho0, hb⟩; refine ⟨_, rfl, ?_⟩; have n0_ := Aside0.mk (Kd.R_below (by (with_reducible repeat (first | apply Kd.R_alloc | apply Kd.R_drewN | apply Kd.R_drew)); exact HO_11.out) hb); have n1_ := Aside0.mk (Kd.V_lower (Kd.V_mono (ok' := fun k_ => (w.heap.size ≤ k_) ∧ k_ ≠ gb265) ho0 (fun k_ hk_ => ⟨Or.elim hk_ (fun hs_ => ((Kd.R_types (HO_11.out) BK265.out (by decide)).1 k_ hs_.symm).1) (fun hn_ => (Nat.le_trans (below_size (by exact wS HB.out GE265.out)) hn_)), Or.elim hk_ (fun hs_ => ((Kd.R_types (HO_11.out) BK265.out (by decide)).1 k_ hs_.symm).2) (fun hn_ => (Kd.freshB (g := gb265) (o := .cells #[.string a0_0, .int .i64 a0_1, .int .i64 a0_2, .slice A0_3 l0_3.length c0_3, .slice A0_4 l0_4.length c0_4, .slice A0_5 l0_5.length c0_5] 32 (0, 0)) (by (with_reducible repeat (first | refine blk_drewN ?_ _ | refine blk_drew ?_ | refine blk_alloc ?_ _)); exact BK265.out) k_ hn_))⟩)) (below_size (by exact wS HB.out GE265.out))); have n2_ := Aside0.mk (blk_below (g := gb265) (o := .cells #[.string a0_0, .int .i64 a0_1, .int .i64 a0_2, .slice A0_3 l0_3.length c0_3, .slice A0_4 l0_4.length c0_4, .slice A0_5 l0_5.length c0_5] 32 (0, 0)) (by (with_reducible repeat (first | refine blk_drewN ?_ _ | refine blk_drew ?_ | refine blk_alloc ?_ _)); exact BK265.out) hb); have n3_ := Aside0.mk (below_step (by exact wS HB.out GE265.out) hb); clear HO_11; clear BK265; clear HB; have HO_11 := n0_; have HO271 := n1_; have BK265 := n2_; have HB := n3_; clear n0_ n1_ n2_ n3_; (try clear hb); (try clear hb2); (try clear hk); (try clear hi); (try clear ho0)))
              go_meet
              case rel => exact ⟨_, (t269), H', ⟨by have := HJ5.out; have := HJ12.out; first | omega | exact Nat.le_refl _⟩, ⟨by exact vU HO271.out⟩, ⟨by (with_reducible repeat (first | refine blk_drewN ?_ _ | refine blk_drew ?_ | refine blk_alloc ?_ _)); exact BK265.out⟩, ⟨by exact wS HB.out GE265.out⟩⟩
            · replace c16 := Bool.eq_false_iff.mpr c16
              subst c16
              have H1 : (interlocutorref6_from.j3 kj12 l1 l2 a3 a4 ([] : List (S47)) a0_0 a0_1 a0_2 l0_3 l0_4 l0_5) = some r := by rw [if_neg (show ¬ (false = true) by decide)] at H; exact H
              clear H
              have H := H1
              clear H1
              have H' := Aside0.mk H
              clear H
              go_wp2
              go_meet
              case rel => exact ⟨_, (([] : List (S47))), H', ⟨by have := HJ5.out; have := HJ12.out; first | omega | exact Nat.le_refl _⟩, ⟨Kd.R_V (by (with_reducible repeat (first | apply Kd.R_alloc | apply Kd.R_drewN | apply Kd.R_drew)); exact (Kd.R_types HO_11.out BK265.out (by decide)))⟩, ⟨by (with_reducible repeat (first | refine blk_drewN ?_ _ | refine blk_drew ?_ | refine blk_alloc ?_ _)); exact BK265.out⟩, ⟨by exact wS HB.out GE265.out⟩⟩
          case rest =>
            clear HC15
            try clear c1
            try clear c2
            try clear p2
            try clear q2
            try clear hx2
            try clear c4
            try clear c6
            try clear p6
            try clear c8
            try clear c8b0
            try clear c9
            try clear c9b0
            try clear c11
            try clear c12
            try clear c12b0
            try clear c14
            try clear c14b0
            try clear c16
            try clear hx266_0
            try clear hx268_0
            try clear p2
            try clear p266
            try clear p268
            try clear p6
            try clear q2
            try clear q266
            try clear q268
            obtain ⟨kq, x11_14, HA, HJ14, HO_11, BK265, HB⟩ := hcut
            cases kq with
            | zero => exact absurd HA.out (by simp [interlocutorref6_from.j3])
            | succ kj14 =>
              have H := HA.out
              clear HA
              simp only [interlocutorref6_from.j3] at H
              have H' := Aside0.mk H
              clear H
              go_wp2
              go_loopg [11, 14] kj14 (fun kq v11 v14 w' => ∃ (x11_4 : List (S47)) (x14_4 : Int), v14 = .int .i64 x14_4 ∧ Aside0 (interlocutorref6_from.l1 kq l1 l2 a3 a4 x11_4 x14_4 a0_0 a0_1 a0_2 l0_3 l0_4 l0_5 = some r) ∧ Aside0 (kq ≤ kj14) ∧ Aside0 (Kd.V k47 47 w' w.heap.size (fun k_ => (w.heap.size ≤ k_) ∧ k_ ≠ gb265) v11 x11_4) ∧ Aside0 (w'.heap[gb265]? = some (.cells #[.string a0_0, .int .i64 a0_1, .int .i64 a0_2, (.slice A0_3 l0_3.length c0_3), (.slice A0_4 l0_4.length c0_4), (.slice A0_5 l0_5.length c0_5)] 32 (0, 0))) ∧ Aside0 (Below w.heap.size w w'))
              case atStart => exact ⟨(x11_14), (0), (by first | rfl | (simp; done) | (simp [*]; done)), H', ⟨Nat.le_refl _⟩, ⟨by exact vU HO_11.out⟩, ⟨by (with_reducible repeat (first | refine blk_drewN ?_ _ | refine blk_drew ?_ | refine blk_alloc ?_ _)); exact BK265.out⟩, ⟨by exact wS HB.out GE265.out⟩⟩
              case round =>
                clear H'
                try clear c1
                try clear c2
                try clear p2
                try clear q2
                try clear hx2
                try clear c4
                try clear c6
                try clear p6
                try clear c8
                try clear c8b0
                try clear c9
                try clear c9b0
                try clear c11
                try clear c12
                try clear c12b0
                try clear c14
                try clear c14b0
                try clear c16
                try clear hx266_0
                try clear hx268_0
                try clear p2
                try clear p266
                try clear p268
                try clear p6
                try clear q2
                try clear q266
                try clear q268
                obtain ⟨x11_4, x14_4, rfl, HA, HK4, HO_11, BK265, HB⟩ := hrel
                cases gk with
                | zero => exact absurd HA.out (by simp [interlocutorref6_from.l1])
                | succ k4 =>
                  have H := HA.out
                  clear HA
                  simp only [interlocutorref6_from.l1] at H
                  by_cases c19 : x14_4 < (l1.length : Int)
                  · rw [if_pos c19] at H
                    have c19b0 : decide (x14_4 < (l1.length : Int)) = true := decide_eq_true c19
                    clear c19
                    by_cases c20 : 0 ≤ x14_4
                    · rw [if_pos c20] at H
                      have c20b0 : decide (0 ≤ x14_4) = true := decide_eq_true c20
                      clear c20
                      replace H := Option.bind_eq_some_iff.mp H
                      obtain ⟨t273, A210, H⟩ := H
                      replace H : (if t273 = true then (if x14_4 < (l0_3.length : Int) then ((interlocutorref6_put.f k4 x11_4 a3 (wrap64 (a4 + ((rd_L6 l1 x14_4).length : Int))) ((rd_T53 l0_3 x14_4).f1) ((rd_T53 l0_3 x14_4).f2) 0).bind fun t277 => (interlocutorref6_from.l1 k4 l1 l2 a3 a4 t277 (wrap64 (x14_4 + 1)) a0_0 a0_1 a0_2 l0_3 l0_4 l0_5)) else (none)) else (interlocutorref6_from.l1 k4 l1 l2 a3 a4 x11_4 (wrap64 (x14_4 + 1)) a0_0 a0_1 a0_2 l0_3 l0_4 l0_5)) = some r := H
                      have A21 := Aside0.mk A210
                      clear A210
                      by_cases c22 : t273 = true
                      · subst c22
                        have H1 : (if x14_4 < (l0_3.length : Int) then ((interlocutorref6_put.f k4 x11_4 a3 (wrap64 (a4 + ((rd_L6 l1 x14_4).length : Int))) ((rd_T53 l0_3 x14_4).f1) ((rd_T53 l0_3 x14_4).f2) 0).bind fun t277 => (interlocutorref6_from.l1 k4 l1 l2 a3 a4 t277 (wrap64 (x14_4 + 1)) a0_0 a0_1 a0_2 l0_3 l0_4 l0_5)) else (none)) = some r := by rw [if_pos rfl] at H; exact H
                        clear H
                        have H := H1
                        clear H1
                        by_cases c23 : x14_4 < (l0_3.length : Int)
                        · rw [if_pos c23] at H
                          have c23b0 : decide (x14_4 < (l0_3.length : Int)) = true := decide_eq_true c23
                          clear c23
                          replace H := Option.bind_eq_some_iff.mp H
                          obtain ⟨t277, A240, H⟩ := H
                          replace H : (interlocutorref6_from.l1 k4 l1 l2 a3 a4 t277 (wrap64 (x14_4 + 1)) a0_0 a0_1 a0_2 l0_3 l0_4 l0_5) = some r := H
                          have A24 := Aside0.mk A240
                          clear A240
                          have H' := Aside0.mk H
                          clear H
                          have p272 : 0 ≤ (x14_4 : Int) := of_decide_eq_true (by first | (with_reducible assumption) | assumption)
                          have q272 : x14_4 < (l1.length : Int) := of_decide_eq_true (by first | (with_reducible assumption) | assumption)
                          obtain ⟨ad272, A272_0, c272_0, e272, hx272_0, hl272_0, hi272_0⟩ := at_L6 HR1.out x14_4 p272 q272
                          cases e272
                          replace hx272_0 := (HB.out.cell (World.block_lt_of_cell? w _ hx272_0)).trans hx272_0
                          have HR272_0 := Aside0.mk hi272_0
                          have HC272_0 := Aside0.mk hl272_0
                          clear hi272_0 hl272_0
                          replace p272 := eq_true p272
                          replace q272 := eq_true q272
                          try go_wp2_with (first | ((with_reducible refine gate_callee (f := 67) rfl ?_); refine goesL_ (some 74) rfl rfl Try.func67 (by kernel_rfl) rfl #[.slice A2 l2.length c2, .int .i64 a4, .slice A272_0 (rd_L6 l1 x14_4).length c272_0] rfl (by (try simp only [List.map_toArray, List.map_cons, List.map_nil]); first | done | rfl | (simp only [List.length_drop, List.length_take]; rfl)) ?_; (with_reducible refine (interlocutorref6_stands.calls k4 _ _ l2 a4 _ _ (rd_L6 l1 x14_4) true _ ?side1 ?side2 ?side3 ?side4 A21.out).mono ?_); (case side1 => repeat (first | exact (Kd.C_below HR2.out HB.out) | (with_reducible refine Kd.C_alloc ?_ _) | (with_reducible refine Kd.C_drewN ?_ _) | (with_reducible refine Kd.C_drew ?_))); (case side2 => exact HC2.out); (case side3 => repeat (first | exact (Kd.C_below HR272_0.out HB.out) | (with_reducible refine Kd.C_alloc ?_ _) | (with_reducible refine Kd.C_drewN ?_ _) | (with_reducible refine Kd.C_drew ?_))); (case side4 => exact HC272_0.out); rintro e w' ⟨rfl, ⟨nd, rfl⟩⟩; refine ⟨_, rfl, ?_⟩))
                          (try (rw [drewN_self wr]; generalize hq_ : World.drewN wr _ = wr; have n0_ : Aside0 (Kd.V k47 47 wr w.heap.size (fun k_ => (w.heap.size ≤ k_) ∧ k_ ≠ gb265) u11 x11_4) := ⟨by rw [← hq_]; exact (by exact vU HO_11.out)⟩; have n1_ : Aside0 (wr.heap[gb265]? = some (.cells #[.string a0_0, .int .i64 a0_1, .int .i64 a0_2, .slice A0_3 l0_3.length c0_3, .slice A0_4 l0_4.length c0_4, .slice A0_5 l0_5.length c0_5] 32 (0, 0))) := ⟨by rw [← hq_]; exact (by (with_reducible repeat (first | refine blk_drewN ?_ _ | refine blk_drew ?_ | refine blk_alloc ?_ _)); exact BK265.out)⟩; have n2_ : Aside0 (Below w.heap.size w wr) := ⟨by rw [← hq_]; exact (by exact wS HB.out GE265.out)⟩; clear HO_11 BK265 HB hq_; have HO_11 := n0_; have BK265 := n1_; have HB := n2_; clear n0_ n1_ n2_))
                          have n0_ := Aside0.mk (Kd.V_drew HO_11.out)
                          have n1_ := Aside0.mk (blk_drew BK265.out)
                          have n2_ := Aside0.mk (below_drew1 HB.out)
                          clear HO_11 BK265 HB
                          have HO_11 := n0_
                          have BK265 := n1_
                          have HB := n2_
                          clear n0_ n1_ n2_
                          have p274 : 0 ≤ (x14_4 : Int) := of_decide_eq_true (by first | (with_reducible assumption) | assumption)
                          have q274 : x14_4 < (l1.length : Int) := of_decide_eq_true (by first | (with_reducible assumption) | assumption)
                          obtain ⟨ad274, A274_0, c274_0, e274, hx274_0, hl274_0, hi274_0⟩ := at_L6 HR1.out x14_4 p274 q274
                          have hw274_0 := hx274_0
                          obtain rfl : ad272 = ad274 := (by injection e274)
                          replace hx274_0 := (HB.out.cell (World.block_lt_of_cell? w _ hx274_0)).trans hx274_0
                          have HR274_0 := Aside0.mk hi274_0
                          have HC274_0 := Aside0.mk hl274_0
                          clear hi274_0 hl274_0
                          replace p274 := eq_true p274
                          replace q274 := eq_true q274
                          have p275 : 0 ≤ (x14_4 : Int) := of_decide_eq_true (by first | (with_reducible assumption) | assumption)
                          have q275 : x14_4 < (l0_3.length : Int) := of_decide_eq_true (by first | (with_reducible assumption) | assumption)
                          obtain ⟨ad275, e275, hx275_0, hx275_1, hx275_2⟩ := at_T53 HR0_3.out x14_4 p275 q275
                          have hw275_2 := hx275_2
                          have hw275_1 := hx275_1
                          have hw275_0 := hx275_0
                          cases e275
                          replace hx275_0 := (HB.out.cell (World.block_lt_of_cell? w _ hx275_0)).trans hx275_0
                          replace hx275_1 := (HB.out.cell (World.block_lt_of_cell? w _ hx275_1)).trans hx275_1
                          replace hx275_2 := (HB.out.cell (World.block_lt_of_cell? w _ hx275_2)).trans hx275_2
                          replace p275 := eq_true p275
                          replace q275 := eq_true q275
                          have p276 : 0 ≤ (x14_4 : Int) := of_decide_eq_true (by first | (with_reducible assumption) | assumption)
                          have q276 : x14_4 < (l0_3.length : Int) := of_decide_eq_true (by first | (with_reducible assumption) | assumption)
                          obtain ⟨ad276, e276, hx276_0, hx276_1, hx276_2⟩ := at_T53 HR0_3.out x14_4 p276 q276
                          have hw276_2 := hx276_2
                          have hw276_1 := hx276_1
                          have hw276_0 := hx276_0
                          obtain rfl : ad275 = ad276 := (by injection e276)
                          replace hx276_0 := (HB.out.cell (World.block_lt_of_cell? w _ hx276_0)).trans hx276_0
                          replace hx276_1 := (HB.out.cell (World.block_lt_of_cell? w _ hx276_1)).trans hx276_1
                          replace hx276_2 := (HB.out.cell (World.block_lt_of_cell? w _ hx276_2)).trans hx276_2
                          replace p276 := eq_true p276
                          replace q276 := eq_true q276
                          obtain ⟨Ao26, co26, eo26⟩ := Kd.V_slice HO_11.out
                          (first | subst eo26 | (injection eo26 with f1_ f2_ f3_; have f4_ := f1_.symm; have f5_ := f3_.symm; clear f1_ f2_ f3_; subst f4_; subst f5_))
                          refine start_ (n := 24) (S := fun w' => w'.cell? ⟨gb265, 0, none⟩ = some (.string a0_0) ∧ w'.cell? ⟨gb265, 1, none⟩ = some (.int .i64 a0_1) ∧ w'.cell? ⟨gb265, 2, none⟩ = some (.int .i64 a0_2) ∧ w'.cell? ⟨gb265, 3, none⟩ = some (.slice (some ad275) l0_3.length c0_3) ∧ w'.cell? ⟨gb265, 4, none⟩ = some (.slice A0_4 l0_4.length c0_4) ∧ w'.cell? ⟨gb265, 5, none⟩ = some (.slice A0_5 l0_5.length c0_5) ∧ w'.cell? (ad272.add (x14_4).toNat) = some (.slice A274_0 (rd_L6 l1 x14_4).length c274_0) ∧ w'.cell? (ad275.add ((x14_4).toNat * 3)) = some (.string ((rd_T53 l0_3 x14_4).f0)) ∧ w'.cell? ⟨(ad275.add ((x14_4).toNat * 3)).block, (ad275.add ((x14_4).toNat * 3)).off + 1, none⟩ = some (.int .i64 ((rd_T53 l0_3 x14_4).f1)) ∧ w'.cell? ⟨(ad275.add ((x14_4).toNat * 3)).block, (ad275.add ((x14_4).toNat * 3)).off + 2, none⟩ = some (.int .i64 ((rd_T53 l0_3 x14_4).f2)) ∧ w'.cell? (ad275.add ((x14_4).toNat * 3)) = some (.string ((rd_T53 l0_3 x14_4).f0)) ∧ w'.cell? ⟨(ad275.add ((x14_4).toNat * 3)).block, (ad275.add ((x14_4).toNat * 3)).off + 1, none⟩ = some (.int .i64 ((rd_T53 l0_3 x14_4).f1)) ∧ w'.cell? ⟨(ad275.add ((x14_4).toNat * 3)).block, (ad275.add ((x14_4).toNat * 3)).off + 2, none⟩ = some (.int .i64 ((rd_T53 l0_3 x14_4).f2))) (ds := []) #[false, false, false, false, false, false, false, false, false, false, false, false, false, false, false, false, false, false, false, false, false, false, false, false] (by kernel_rfl) rfl rfl ⟨(blk_cell BK265.out 0).trans rfl, (blk_cell BK265.out 1).trans rfl, (blk_cell BK265.out 2).trans rfl, (blk_cell BK265.out 3).trans rfl, (blk_cell BK265.out 4).trans rfl, (blk_cell BK265.out 5).trans rfl, ((HB.out.cell (World.block_lt_of_cell? w _ hw274_0)).trans hw274_0), ((HB.out.cell (World.block_lt_of_cell? w _ hw275_0)).trans hw275_0), ((HB.out.cell (World.block_lt_of_cell? w _ hw275_1)).trans hw275_1), ((HB.out.cell (World.block_lt_of_cell? w _ hw275_2)).trans hw275_2), ((HB.out.cell (World.block_lt_of_cell? w _ hw276_0)).trans hw276_0), ((HB.out.cell (World.block_lt_of_cell? w _ hw276_1)).trans hw276_1), ((HB.out.cell (World.block_lt_of_cell? w _ hw276_2)).trans hw276_2)⟩ (fun hHeld => ?_); refine with_tabW interlocutorref6_from.tab12 interlocutorref6_from.bits12 (fun HT_ HW_ => ?_)
                          generalize wr.drew = w25 at HO_11 BK265 HB HR274_0 hx274_0 hx275_0 hx275_1 hx275_2 hx276_0 hx276_1 hx276_2 hHeld ⊢
                          refine pure_ (i := 0) (N := some 75) (v := ?_) (a' := ?_) #[true, false, false, false, false, false, false, false, false, false, false, false, false, false, false, false, false, false, false, false, false, false, false, false] rfl rfl (any_of HT_.out (by kernel_rfl)) (fun _ _ _ h => h) (Or.inl ⟨by rfl, ?_⟩) ?_ ?_
                          rotate_left
                          · intro w'
                            go_simp
                            with_reducible rfl
                          rotate_left
                          · simp only [Act.put, List.setIfInBounds_toArray, List.set_cons_zero, List.set_cons_succ, i64_w, i32_w]
                            rfl
                          refine pure_ (i := 1) (N := some 76) (v := ?_) (a' := ?_) #[true, true, false, false, false, false, false, false, false, false, false, false, false, false, false, false, false, false, false, false, false, false, false, false] rfl rfl (any_of HT_.out (by kernel_rfl)) (fun _ _ _ h => h) (Or.inl ⟨by rfl, ?_⟩) ?_ ?_
                          rotate_left
                          · intro w'
                            go_simp
                            with_reducible rfl
                          rotate_left
                          · simp only [Act.put, List.setIfInBounds_toArray, List.set_cons_zero, List.set_cons_succ, i64_w, i32_w]
                            rfl
                          refine pure_ (i := 2) (N := some 77) (v := ?_) (a' := ?_) #[true, true, true, false, false, false, false, false, false, false, false, false, false, false, false, false, false, false, false, false, false, false, false, false] rfl rfl (any_of HT_.out (by kernel_rfl)) (fun _ _ _ h => h) (Or.inl ⟨by rfl, ?_⟩) ?_ ?_
                          rotate_left
                          · intro w'
                            go_simp
                            with_reducible rfl
                          rotate_left
                          · simp only [Act.put, List.setIfInBounds_toArray, List.set_cons_zero, List.set_cons_succ, i64_w, i32_w]
                            rfl
                          refine pure_ (i := 3) (N := some 78) (v := ?_) (a' := ?_) #[true, true, true, true, false, false, false, false, false, false, false, false, false, false, false, false, false, false, false, false, false, false, false, false] rfl rfl (any_of HT_.out (by kernel_rfl)) (fun _ _ _ h => h) (Or.inl ⟨by rfl, ?_⟩) ?_ ?_
                          rotate_left
                          · intro w'
                            go_simp
                            with_reducible rfl
                          rotate_left
                          · simp only [Act.put, List.setIfInBounds_toArray, List.set_cons_zero, List.set_cons_succ, i64_w, i32_w]
                            rfl
                          refine pure_ (i := 4) (N := some 79) (v := ?_) (a' := ?_) #[true, true, true, true, true, false, false, false, false, false, false, false, false, false, false, false, false, false, false, false, false, false, false, false] rfl rfl (any_of HT_.out (by kernel_rfl)) (fun _ _ _ h => h) (Or.inl ⟨by rfl, ?_⟩) ?_ ?_
                          rotate_left
                          · intro w'
                            go_simp
                            with_reducible rfl
                          rotate_left
                          · simp only [Act.put, List.setIfInBounds_toArray, List.set_cons_zero, List.set_cons_succ, i64_w, i32_w]
                            rfl
                          refine pure_ (i := 5) (N := some 80) (v := ?_) (a' := ?_) #[true, true, true, true, true, true, false, false, false, false, false, false, false, false, false, false, false, false, false, false, false, false, false, false] rfl rfl (any_of HT_.out (by kernel_rfl)) (fun _ _ _ h => h) (Or.inl ⟨by rfl, ?_⟩) ?_ ?_
                          rotate_left
                          · intro w'
                            go_simp
                            with_reducible rfl
                          rotate_left
                          · simp only [Act.put, List.setIfInBounds_toArray, List.set_cons_zero, List.set_cons_succ, i64_w, i32_w]
                            rfl
                          refine pure_ (i := 9) (N := some 84) (v := ?_) (a' := ?_) #[true, true, true, true, true, true, false, false, false, true, false, false, false, false, false, false, false, false, false, false, false, false, false, false] rfl rfl (any_of HT_.out (by kernel_rfl)) (fun _ _ _ h => h) (Or.inl ⟨by rfl, ?_⟩) ?_ ?_
                          rotate_left
                          · intro w'
                            go_simp
                            with_reducible rfl
                          rotate_left
                          · simp only [Act.put, List.setIfInBounds_toArray, List.set_cons_zero, List.set_cons_succ, i64_w, i32_w]
                            rfl
                          refine pure_ (i := 11) (N := some 86) (v := ?_) (a' := ?_) #[true, true, true, true, true, true, false, false, false, true, false, true, false, false, false, false, false, false, false, false, false, false, false, false] rfl rfl (any_of HT_.out (by kernel_rfl)) (fun _ _ _ h => h) (Or.inl ⟨by rfl, ?_⟩) ?_ ?_
                          rotate_left
                          · intro w'
                            go_simp
                            with_reducible rfl
                          rotate_left
                          · simp only [Act.put, List.setIfInBounds_toArray, List.set_cons_zero, List.set_cons_succ, i64_w, i32_w]
                            rfl
                          refine pure_ (i := 15) (N := some 90) (v := ?_) (a' := ?_) #[true, true, true, true, true, true, false, false, false, true, false, true, false, false, false, true, false, false, false, false, false, false, false, false] rfl rfl (any_of HT_.out (by kernel_rfl)) (fun _ _ _ h => h) (Or.inl ⟨by rfl, ?_⟩) ?_ ?_
                          rotate_left
                          · intro w'
                            go_simp
                            with_reducible rfl
                          rotate_left
                          · simp only [Act.put, List.setIfInBounds_toArray, List.set_cons_zero, List.set_cons_succ, i64_w, i32_w]
                            rfl
                          refine pure_ (i := 17) (N := some 92) (v := ?_) (a' := ?_) #[true, true, true, true, true, true, false, false, false, true, false, true, false, false, false, true, false, true, false, false, false, false, false, false] rfl rfl (any_of HT_.out (by kernel_rfl)) (fun _ _ _ h => h) (Or.inl ⟨by rfl, ?_⟩) ?_ ?_
                          rotate_left
                          · intro w'
                            go_simp
                            with_reducible rfl
                          rotate_left
                          · simp only [Act.put, List.setIfInBounds_toArray, List.set_cons_zero, List.set_cons_succ, i64_w, i32_w]
                            rfl
                          refine take_ (i := 6) (N := some 81) (v := ?_) (a' := ?_) #[true, true, true, true, true, true, true, false, false, true, false, true, false, false, false, true, false, true, false, false, false, false, false, false] rfl rfl (take_ofW HT_.out HW_.out (by kernel_rfl)) (fun _ _ _ h => h) (Or.inl ⟨by rfl, ?_⟩) hHeld ?_ ?_
                          rotate_left
                          · rintro w' ⟨s0, s1, s2, s3, s4, s5, s6, s7, s8, s9, s10, s11, s12⟩
                            go_simp
                            with_reducible rfl
                          rotate_left
                          · simp only [Act.put, List.setIfInBounds_toArray, List.set_cons_zero, List.set_cons_succ, i64_w, i32_w]
                            rfl
                          refine pure_ (i := 7) (N := some 82) (v := ?_) (a' := ?_) #[true, true, true, true, true, true, true, true, false, true, false, true, false, false, false, true, false, true, false, false, false, false, false, false] rfl rfl (any_of HT_.out (by kernel_rfl)) (fun _ _ _ h => h) (Or.inl ⟨by rfl, ?_⟩) ?_ ?_
                          rotate_left
                          · intro w'
                            go_simp
                            with_reducible rfl
                          rotate_left
                          · simp only [Act.put, List.setIfInBounds_toArray, List.set_cons_zero, List.set_cons_succ, i64_w, i32_w]
                            rfl
                          refine pure_ (i := 8) (N := some 83) (v := ?_) (a' := ?_) #[true, true, true, true, true, true, true, true, true, true, false, true, false, false, false, true, false, true, false, false, false, false, false, false] rfl rfl (any_of HT_.out (by kernel_rfl)) (fun _ _ _ h => h) (Or.inl ⟨by rfl, ?_⟩) ?_ ?_
                          rotate_left
                          · intro w'
                            go_simp
                            with_reducible rfl
                          rotate_left
                          · simp only [Act.put, List.setIfInBounds_toArray, List.set_cons_zero, List.set_cons_succ, i64_w, i32_w]
                            rfl
                          refine take_ (i := 10) (N := some 85) (v := ?_) (a' := ?_) #[true, true, true, true, true, true, true, true, true, true, true, true, false, false, false, true, false, true, false, false, false, false, false, false] rfl rfl (take_ofW HT_.out HW_.out (by kernel_rfl)) (fun _ _ _ h => h) (Or.inl ⟨by rfl, ?_⟩) hHeld ?_ ?_
                          rotate_left
                          · rintro w' ⟨s0, s1, s2, s3, s4, s5, s6, s7, s8, s9, s10, s11, s12⟩
                            go_simp
                            with_reducible rfl
                          rotate_left
                          · simp only [Act.put, List.setIfInBounds_toArray, List.set_cons_zero, List.set_cons_succ, i64_w, i32_w]
                            rfl
                          refine pure_ (i := 12) (N := some 87) (v := ?_) (a' := ?_) #[true, true, true, true, true, true, true, true, true, true, true, true, true, false, false, true, false, true, false, false, false, false, false, false] rfl rfl (any_of HT_.out (by kernel_rfl)) (fun _ _ _ h => h) (Or.inl ⟨by rfl, ?_⟩) ?_ ?_
                          rotate_left
                          · intro w'
                            go_simp
                            with_reducible rfl
                          rotate_left
                          · simp only [Act.put, List.setIfInBounds_toArray, List.set_cons_zero, List.set_cons_succ, i64_w, i32_w]
                            rfl
                          refine pure_ (i := 13) (N := some 88) (v := ?_) (a' := ?_) #[true, true, true, true, true, true, true, true, true, true, true, true, true, true, false, true, false, true, false, false, false, false, false, false] rfl rfl (any_of HT_.out (by kernel_rfl)) (fun _ _ _ h => h) (Or.inl ⟨by rfl, ?_⟩) ?_ ?_
                          rotate_left
                          · intro w'
                            go_simp
                            with_reducible rfl
                          rotate_left
                          · simp only [Act.put, List.setIfInBounds_toArray, List.set_cons_zero, List.set_cons_succ, i64_w, i32_w]
                            rfl
                          refine take_ (i := 14) (N := some 89) (v := ?_) (a' := ?_) #[true, true, true, true, true, true, true, true, true, true, true, true, true, true, true, true, false, true, false, false, false, false, false, false] rfl rfl (take_ofW HT_.out HW_.out (by kernel_rfl)) (fun _ _ _ h => h) (Or.inl ⟨by rfl, ?_⟩) hHeld ?_ ?_
                          rotate_left
                          · rintro w' ⟨s0, s1, s2, s3, s4, s5, s6, s7, s8, s9, s10, s11, s12⟩
                            go_simp
                            with_reducible rfl
                          rotate_left
                          · simp only [Act.put, List.setIfInBounds_toArray, List.set_cons_zero, List.set_cons_succ, i64_w, i32_w]
                            rfl
                          refine take_ (i := 16) (N := some 91) (v := ?_) (a' := ?_) #[true, true, true, true, true, true, true, true, true, true, true, true, true, true, true, true, true, true, false, false, false, false, false, false] rfl rfl (take_ofW HT_.out HW_.out (by kernel_rfl)) (fun _ _ _ h => h) (Or.inl ⟨by rfl, ?_⟩) hHeld ?_ ?_
                          rotate_left
                          · rintro w' ⟨s0, s1, s2, s3, s4, s5, s6, s7, s8, s9, s10, s11, s12⟩
                            go_simp
                            with_reducible rfl
                          rotate_left
                          · simp only [Act.put, List.setIfInBounds_toArray, List.set_cons_zero, List.set_cons_succ, i64_w, i32_w]
                            rfl
                          refine pure_ (i := 18) (N := some 93) (v := ?_) (a' := ?_) #[true, true, true, true, true, true, true, true, true, true, true, true, true, true, true, true, true, true, true, false, false, false, false, false] rfl rfl (any_of HT_.out (by kernel_rfl)) (fun _ _ _ h => h) (Or.inl ⟨by rfl, ?_⟩) ?_ ?_
                          rotate_left
                          · intro w'
                            go_simp
                            with_reducible rfl
                          rotate_left
                          · simp only [Act.put, List.setIfInBounds_toArray, List.set_cons_zero, List.set_cons_succ, i64_w, i32_w]
                            rfl
                          refine pure_ (i := 19) (N := some 94) (v := ?_) (a' := ?_) #[true, true, true, true, true, true, true, true, true, true, true, true, true, true, true, true, true, true, true, true, false, false, false, false] rfl rfl (any_of HT_.out (by kernel_rfl)) (fun _ _ _ h => h) (Or.inl ⟨by rfl, ?_⟩) ?_ ?_
                          rotate_left
                          · intro w'
                            go_simp
                            with_reducible rfl
                          rotate_left
                          · simp only [Act.put, List.setIfInBounds_toArray, List.set_cons_zero, List.set_cons_succ, i64_w, i32_w]
                            rfl
                          refine take_ (i := 20) (N := some 95) (v := ?_) (a' := ?_) #[true, true, true, true, true, true, true, true, true, true, true, true, true, true, true, true, true, true, true, true, true, false, false, false] rfl rfl (take_ofW HT_.out HW_.out (by kernel_rfl)) (fun _ _ _ h => h) (Or.inl ⟨by rfl, ?_⟩) hHeld ?_ ?_
                          rotate_left
                          · rintro w' ⟨s0, s1, s2, s3, s4, s5, s6, s7, s8, s9, s10, s11, s12⟩
                            go_simp
                            with_reducible rfl
                          rotate_left
                          · simp only [Act.put, List.setIfInBounds_toArray, List.set_cons_zero, List.set_cons_succ, i64_w, i32_w]
                            rfl
                          refine pure_ (i := 21) (N := some 96) (v := ?_) (a' := ?_) #[true, true, true, true, true, true, true, true, true, true, true, true, true, true, true, true, true, true, true, true, true, true, false, false] rfl rfl (any_of HT_.out (by kernel_rfl)) (fun _ _ _ h => h) (Or.inl ⟨by rfl, ?_⟩) ?_ ?_
                          rotate_left
                          · intro w'
                            go_simp
                            with_reducible rfl
                          rotate_left
                          · simp only [Act.put, List.setIfInBounds_toArray, List.set_cons_zero, List.set_cons_succ, i64_w, i32_w]
                            rfl
                          refine one_ (i := 22) (N := some 97) #[true, true, true, true, true, true, true, true, true, true, true, true, true, true, true, true, true, true, true, true, true, true, true, false] rfl rfl (one_of HT_.out (by kernel_rfl)) (by decide) (fun K hK => ?_)
                          refine goes_ Try.func66 (by kernel_rfl) rfl #[.slice Ao26 x11_4.length co26, .agg #[.int .i64 a3, .int .i64 (wrap64 (a4 + ((rd_L6 l1 x14_4).length : Int))), .int .i64 ((rd_T53 l0_3 x14_4).f1), .int .i64 ((rd_T53 l0_3 x14_4).f2), .int .i64 0]] (by rfl) rfl rfl (by (try simp only [List.map_toArray, List.map_cons, List.map_nil]); first | done | rfl | (simp only [List.length_drop, List.length_take]; rfl)) ?_
                          with_reducible refine (interlocutorref6_put.calls k4 (fun k_ => ((w.heap.size ≤ k_) ∧ k_ ≠ gb265)) _ _ x11_4 a3 (wrap64 (a4 + ((rd_L6 l1 x14_4).length : Int))) ((rd_T53 l0_3 x14_4).f1) ((rd_T53 l0_3 x14_4).f2) 0 t277 _ ?side1 A24.out).mono ?_
                          (case side1 => exact HO_11.out)
                          rintro e w27 ⟨v278, rfl, ho0, hb⟩
                          refine ⟨_, rfl, ?_⟩
                          have n0_ := Aside0.mk (Kd.V_below (by exact vU HO_11.out) hb)
                          have n1_ := Aside0.mk (Kd.V_lower (Kd.V_mono (ok' := fun k_ => (w.heap.size ≤ k_) ∧ k_ ≠ gb265) ho0 (fun k_ hk_ => ⟨Or.elim hk_ (fun hs_ => hs_.1) (fun hn_ => (Nat.le_trans (below_size (by exact wS HB.out GE265.out)) hn_)), Or.elim hk_ (fun hs_ => hs_.2) (fun hn_ => (Kd.freshB (g := gb265) (o := .cells #[.string a0_0, .int .i64 a0_1, .int .i64 a0_2, .slice (some ad275) l0_3.length c0_3, .slice A0_4 l0_4.length c0_4, .slice A0_5 l0_5.length c0_5] 32 (0, 0)) (by (with_reducible repeat (first | refine blk_drewN ?_ _ | refine blk_drew ?_ | refine blk_alloc ?_ _)); exact BK265.out) k_ hn_))⟩)) (below_size (by exact wS HB.out GE265.out)))
                          have n2_ := Aside0.mk (blk_below (g := gb265) (o := .cells #[.string a0_0, .int .i64 a0_1, .int .i64 a0_2, .slice (some ad275) l0_3.length c0_3, .slice A0_4 l0_4.length c0_4, .slice A0_5 l0_5.length c0_5] 32 (0, 0)) (by (with_reducible repeat (first | refine blk_drewN ?_ _ | refine blk_drew ?_ | refine blk_alloc ?_ _)); exact BK265.out) hb)
                          have n3_ := Aside0.mk (below_step (by exact wS HB.out GE265.out) hb)
                          clear HO_11 BK265 HB
                          have HO_11 := n0_
                          have HO279 := n1_
                          have BK265 := n2_
                          have HB := n3_
                          clear n0_ n1_ n2_ n3_
                          (try clear hb)
                          (try clear hb2)
                          (try clear hk)
                          (try clear hi)
                          (try clear ho0)
                          refine hK.out _ _ ⟨(blk_cell BK265.out 0).trans rfl, (blk_cell BK265.out 1).trans rfl, (blk_cell BK265.out 2).trans rfl, (blk_cell BK265.out 3).trans rfl, (blk_cell BK265.out 4).trans rfl, (blk_cell BK265.out 5).trans rfl, ((HB.out.cell (World.block_lt_of_cell? w _ hw274_0)).trans hw274_0), ((HB.out.cell (World.block_lt_of_cell? w _ hw275_0)).trans hw275_0), ((HB.out.cell (World.block_lt_of_cell? w _ hw275_1)).trans hw275_1), ((HB.out.cell (World.block_lt_of_cell? w _ hw275_2)).trans hw275_2), ((HB.out.cell (World.block_lt_of_cell? w _ hw276_0)).trans hw276_0), ((HB.out.cell (World.block_lt_of_cell? w _ hw276_1)).trans hw276_1), ((HB.out.cell (World.block_lt_of_cell? w _ hw276_2)).trans hw276_2)⟩ (fun hHeld => ?_)
                          clear hK K
                          refine norm_ (a' := ?_) ?_ ?_
                          rotate_left
                          · show Act.put _ (some 97) _ = _
                            simp only [Act.put, List.setIfInBounds_toArray, List.set_cons_zero, List.set_cons_succ, i64_w, i32_w]
                            rfl
                          refine pure_ (i := 23) (N := some 11) (v := ?_) (a' := ?_) #[true, true, true, true, true, true, true, true, true, true, true, true, true, true, true, true, true, true, true, true, true, true, true, true] rfl rfl (any_of HT_.out (by kernel_rfl)) (fun _ _ _ h => h) (Or.inl ⟨by rfl, ?_⟩) ?_ ?_
                          rotate_left
                          · intro w'
                            go_simp
                            with_reducible rfl
                          rotate_left
                          · simp only [Act.put, List.setIfInBounds_toArray, List.set_cons_zero, List.set_cons_succ, i64_w, i32_w]
                            rfl
                          refine done_ (done_of HT_.out (by kernel_rfl)) ?_
                          try go_wp2
                          go_roundg k4
                          case measure => have := HJ5.out; have := HJ12.out; have := HJ14.out; have := HK4.out; omega
                          case rel => exact ⟨(t277), (wrap64 (x14_4 + 1)), (by first | rfl | (simp; done) | (simp [*]; done)), H', ⟨by have := HJ5.out; have := HJ12.out; have := HJ14.out; have := HK4.out; omega⟩, ⟨by exact vU HO279.out⟩, ⟨by (with_reducible repeat (first | refine blk_drewN ?_ _ | refine blk_drew ?_ | refine blk_alloc ?_ _)); exact BK265.out⟩, ⟨by exact wS HB.out GE265.out⟩⟩
                        · rw [if_neg c23] at H
                          exact absurd H (by simp)
                      · replace c22 := Bool.eq_false_iff.mpr c22
                        subst c22
                        have H1 : (interlocutorref6_from.l1 k4 l1 l2 a3 a4 x11_4 (wrap64 (x14_4 + 1)) a0_0 a0_1 a0_2 l0_3 l0_4 l0_5) = some r := by rw [if_neg (show ¬ (false = true) by decide)] at H; exact H
                        clear H
                        have H := H1
                        clear H1
                        have H' := Aside0.mk H
                        clear H
                        have p272 : 0 ≤ (x14_4 : Int) := of_decide_eq_true (by first | (with_reducible assumption) | assumption)
                        have q272 : x14_4 < (l1.length : Int) := of_decide_eq_true (by first | (with_reducible assumption) | assumption)
                        obtain ⟨ad272, A272_0, c272_0, e272, hx272_0, hl272_0, hi272_0⟩ := at_L6 HR1.out x14_4 p272 q272
                        cases e272
                        replace hx272_0 := (HB.out.cell (World.block_lt_of_cell? w _ hx272_0)).trans hx272_0
                        have HR272_0 := Aside0.mk hi272_0
                        have HC272_0 := Aside0.mk hl272_0
                        clear hi272_0 hl272_0
                        replace p272 := eq_true p272
                        replace q272 := eq_true q272
                        go_wp2_with (first | ((with_reducible refine gate_callee (f := 67) rfl ?_); refine goesL_ (some 74) rfl rfl Try.func67 (by kernel_rfl) rfl #[.slice A2 l2.length c2, .int .i64 a4, .slice A272_0 (rd_L6 l1 x14_4).length c272_0] rfl (by (try simp only [List.map_toArray, List.map_cons, List.map_nil]); first | done | rfl | (simp only [List.length_drop, List.length_take]; rfl)) ?_; (with_reducible refine (interlocutorref6_stands.calls k4 _ _ l2 a4 _ _ (rd_L6 l1 x14_4) false _ ?side1 ?side2 ?side3 ?side4 A21.out).mono ?_); (case side1 => repeat (first | exact (Kd.C_below HR2.out HB.out) | (with_reducible refine Kd.C_alloc ?_ _) | (with_reducible refine Kd.C_drewN ?_ _) | (with_reducible refine Kd.C_drew ?_))); (case side2 => exact HC2.out); (case side3 => repeat (first | exact (Kd.C_below HR272_0.out HB.out) | (with_reducible refine Kd.C_alloc ?_ _) | (with_reducible refine Kd.C_drewN ?_ _) | (with_reducible refine Kd.C_drew ?_))); (case side4 => exact HC272_0.out); rintro e w' ⟨rfl, ⟨nd, rfl⟩⟩; refine ⟨_, rfl, ?_⟩))
                        go_roundg k4
                        case measure => have := HJ5.out; have := HJ12.out; have := HJ14.out; have := HK4.out; omega
                        case rel => exact ⟨(x11_4), (wrap64 (x14_4 + 1)), (by first | rfl | (simp; done) | (simp [*]; done)), H', ⟨by have := HJ5.out; have := HJ12.out; have := HJ14.out; have := HK4.out; omega⟩, ⟨by exact vU HO_11.out⟩, ⟨by (with_reducible repeat (first | refine blk_drewN ?_ _ | refine blk_drew ?_ | refine blk_alloc ?_ _)); exact BK265.out⟩, ⟨by exact wS HB.out GE265.out⟩⟩
                    · rw [if_neg c20] at H
                      exact absurd H (by simp)
                  · rw [if_neg c19] at H
                    have c19b0 : decide (x14_4 < (l1.length : Int)) = false := decide_eq_false c19
                    clear c19
                    have H' := Aside0.mk H
                    clear H
                    go_wp2
                    go_loopg [11, 15] k4 (fun kq v11 v15 w' => ∃ (x11_5 : List (S47)) (x15_5 : Int), v15 = .int .i64 x15_5 ∧ Aside0 (interlocutorref6_from.l2 kq l2 a3 a4 x11_5 x15_5 = some r) ∧ Aside0 (kq ≤ k4) ∧ Aside0 (Kd.V k47 47 w' w.heap.size (fun k_ => (w.heap.size ≤ k_) ∧ k_ ≠ gb265) v11 x11_5) ∧ Aside0 (w'.heap[gb265]? = some (.cells #[.string a0_0, .int .i64 a0_1, .int .i64 a0_2, (.slice A0_3 l0_3.length c0_3), (.slice A0_4 l0_4.length c0_4), (.slice A0_5 l0_5.length c0_5)] 32 (0, 0))) ∧ Aside0 (Below w.heap.size w w'))
                    case atStart => exact ⟨(x11_4), (0), (by first | rfl | (simp; done) | (simp [*]; done)), H', ⟨Nat.le_refl _⟩, ⟨by exact vU HO_11.out⟩, ⟨by (with_reducible repeat (first | refine blk_drewN ?_ _ | refine blk_drew ?_ | refine blk_alloc ?_ _)); exact BK265.out⟩, ⟨by exact wS HB.out GE265.out⟩⟩
                    case round =>
                      clear H'
                      try clear c1
                      try clear c2
                      try clear p2
                      try clear q2
                      try clear hx2
                      try clear c4
                      try clear c6
                      try clear p6
                      try clear c8
                      try clear c8b0
                      try clear c9
                      try clear c9b0
                      try clear c11
                      try clear c12
                      try clear c12b0
                      try clear c14
                      try clear c14b0
                      try clear c16
                      try clear c19
                      try clear c19b0
                      try clear c20
                      try clear c20b0
                      try clear c22
                      try clear c23
                      try clear c23b0
                      try clear p26
                      try clear q26
                      try clear hx26
                      try clear c27
                      try clear p27
                      try clear q27
                      try clear hx27
                      try clear hx266_0
                      try clear hx268_0
                      try clear hx272_0
                      try clear hx274_0
                      try clear hx275_0
                      try clear hx275_1
                      try clear hx275_2
                      try clear hx276_0
                      try clear hx276_1
                      try clear hx276_2
                      try clear p2
                      try clear p266
                      try clear p268
                      try clear p272
                      try clear p274
                      try clear p275
                      try clear p276
                      try clear p6
                      try clear q2
                      try clear q266
                      try clear q268
                      try clear q272
                      try clear q274
                      try clear q275
                      try clear q276
                      obtain ⟨x11_5, x15_5, rfl, HA, HK5, HO_11, BK265, HB⟩ := hrel
                      cases gk with
                      | zero => exact absurd HA.out (by simp [interlocutorref6_from.l2])
                      | succ k5 =>
                        have H := HA.out
                        clear HA
                        simp only [interlocutorref6_from.l2] at H
                        by_cases c28 : x15_5 < 11
                        · rw [if_pos c28] at H
                          have c28b0 : decide (x15_5 < 11) = true := decide_eq_true c28
                          clear c28
                          by_cases c29 : 0 ≤ a4
                          · rw [if_pos c29] at H
                            have c29b0 : decide (0 ≤ a4) = true := decide_eq_true c29
                            clear c29
                            by_cases c30 : a4 < (l2.length : Int)
                            · rw [if_pos c30] at H
                              have c30b0 : decide (a4 < (l2.length : Int)) = true := decide_eq_true c30
                              clear c30
                              by_cases c31 : 0 ≤ x15_5
                              · rw [if_pos c31] at H
                                have c31b0 : decide (0 ≤ x15_5) = true := decide_eq_true c31
                                clear c31
                                by_cases c33 : (rd l2 a4) = (wrap64 (bt (⟨#[47, 45, 46, 44, 58, 43, 36, 37, 40, 41, 39]⟩ : ByteArray) x15_5))
                                · rw [if_pos c33] at H
                                  have c33b0 : ((rd l2 a4) == (wrap64 (bt (⟨#[47, 45, 46, 44, 58, 43, 36, 37, 40, 41, 39]⟩ : ByteArray) x15_5))) = true := beq_iff_eq.mpr c33
                                  have c33b1 : ((rd l2 a4) != (wrap64 (bt (⟨#[47, 45, 46, 44, 58, 43, 36, 37, 40, 41, 39]⟩ : ByteArray) x15_5))) = false := bne_eq_false_iff_eq.mpr c33
                                  clear c33
                                  replace H := Option.bind_eq_some_iff.mp H
                                  obtain ⟨t281, A340, H⟩ := H
                                  replace H : (interlocutorref6_from.l2 k5 l2 a3 a4 t281 (wrap64 (x15_5 + 1))) = some r := H
                                  have A34 := Aside0.mk A340
                                  clear A340
                                  have H' := Aside0.mk H
                                  clear H
                                  try go_wp2
                                  have n0_ := Aside0.mk (Kd.V_drew HO_11.out)
                                  have n1_ := Aside0.mk (blk_drew BK265.out)
                                  have n2_ := Aside0.mk (below_drew1 HB.out)
                                  clear HO_11 BK265 HB
                                  have HO_11 := n0_
                                  have BK265 := n1_
                                  have HB := n2_
                                  clear n0_ n1_ n2_
                                  have p280 : 0 ≤ (a4 : Int) := of_decide_eq_true (by first | (with_reducible assumption) | assumption)
                                  have q280 : a4 < (l2.length : Int) := of_decide_eq_true (by first | (with_reducible assumption) | assumption)
                                  obtain ⟨ad280, e280, hx280_0⟩ := Kd.at_int HR2.out a4 p280 q280
                                  have hw280_0 := hx280_0
                                  cases e280
                                  replace hx280_0 := (HB.out.cell (World.block_lt_of_cell? w _ hx280_0)).trans hx280_0
                                  replace p280 := eq_true p280
                                  replace q280 := eq_true q280
                                  have p32 : 0 ≤ (x15_5 : Int) := of_decide_eq_true (by first | (with_reducible assumption) | assumption)
                                  have q32 : x15_5 < (11 : Int) := of_decide_eq_true (by first | (with_reducible assumption) | assumption)
                                  have hx32 := bt_at (⟨#[47, 45, 46, 44, 58, 43, 36, 37, 40, 41, 39]⟩ : ByteArray) x15_5
                                  replace p32 := eq_true p32
                                  replace q32 := eq_true q32
                                  refine start_ (n := 8) (S := fun w' => w'.cell? (ad280.add (a4).toNat) = some (.int .i64 (rd l2 a4))) (ds := []) #[false, false, false, false, false, false, false, false] (by kernel_rfl) rfl rfl (((HB.out.cell (World.block_lt_of_cell? w _ hw280_0)).trans hw280_0)) (fun hHeld => ?_); refine with_tabW interlocutorref6_from.tab16 interlocutorref6_from.bits16 (fun HT_ HW_ => ?_)
                                  generalize wr.drew = w35 at HO_11 BK265 HB hx280_0 hHeld ⊢
                                  refine pure_ (i := 0) (N := some 102) (v := ?_) (a' := ?_) #[true, false, false, false, false, false, false, false] rfl rfl (any_of HT_.out (by kernel_rfl)) (fun _ _ _ h => h) (Or.inl ⟨by rfl, ?_⟩) ?_ ?_
                                  rotate_left
                                  · intro w'
                                    go_simp
                                    with_reducible rfl
                                  rotate_left
                                  · simp only [Act.put, List.setIfInBounds_toArray, List.set_cons_zero, List.set_cons_succ, i64_w, i32_w]
                                    rfl
                                  refine pure_ (i := 1) (N := some 103) (v := ?_) (a' := ?_) #[true, true, false, false, false, false, false, false] rfl rfl (any_of HT_.out (by kernel_rfl)) (fun _ _ _ h => h) (Or.inl ⟨by rfl, ?_⟩) ?_ ?_
                                  rotate_left
                                  · intro w'
                                    go_simp
                                    with_reducible rfl
                                  rotate_left
                                  · simp only [Act.put, List.setIfInBounds_toArray, List.set_cons_zero, List.set_cons_succ, i64_w, i32_w]
                                    rfl
                                  refine pure_ (i := 2) (N := some 104) (v := ?_) (a' := ?_) #[true, true, true, false, false, false, false, false] rfl rfl (any_of HT_.out (by kernel_rfl)) (fun _ _ _ h => h) (Or.inl ⟨by rfl, ?_⟩) ?_ ?_
                                  rotate_left
                                  · intro w'
                                    go_simp
                                    with_reducible rfl
                                  rotate_left
                                  · simp only [Act.put, List.setIfInBounds_toArray, List.set_cons_zero, List.set_cons_succ, i64_w, i32_w]
                                    rfl
                                  refine pure_ (i := 4) (N := some 106) (v := ?_) (a' := ?_) #[true, true, true, false, true, false, false, false] rfl rfl (any_of HT_.out (by kernel_rfl)) (fun _ _ _ h => h) (Or.inl ⟨by rfl, ?_⟩) ?_ ?_
                                  rotate_left
                                  · intro w'
                                    go_simp
                                    with_reducible rfl
                                  rotate_left
                                  · simp only [Act.put, List.setIfInBounds_toArray, List.set_cons_zero, List.set_cons_succ, i64_w, i32_w]
                                    rfl
                                  refine take_ (i := 3) (N := some 105) (v := ?_) (a' := ?_) #[true, true, true, true, true, false, false, false] rfl rfl (take_ofW HT_.out HW_.out (by kernel_rfl)) (fun _ _ _ h => h) (Or.inl ⟨by rfl, ?_⟩) hHeld ?_ ?_
                                  rotate_left
                                  · intro w' s0
                                    go_simp
                                    with_reducible rfl
                                  rotate_left
                                  · simp only [Act.put, List.setIfInBounds_toArray, List.set_cons_zero, List.set_cons_succ, i64_w, i32_w]
                                    rfl
                                  refine take_ (i := 5) (N := some 107) (v := ?_) (a' := ?_) #[true, true, true, true, true, true, false, false] rfl rfl (take_ofW HT_.out HW_.out (by kernel_rfl)) (fun _ _ _ h => h) (Or.inl ⟨by rfl, ?_⟩) hHeld ?_ ?_
                                  rotate_left
                                  · intro w' s0
                                    go_simp
                                    with_reducible rfl
                                  rotate_left
                                  · simp only [Act.put, List.setIfInBounds_toArray, List.set_cons_zero, List.set_cons_succ, i64_w, i32_w]
                                    rfl
                                  refine pure_ (i := 6) (N := some 108) (v := ?_) (a' := ?_) #[true, true, true, true, true, true, true, false] rfl rfl (any_of HT_.out (by kernel_rfl)) (fun _ _ _ h => h) (Or.inl ⟨by rfl, ?_⟩) ?_ ?_
                                  rotate_left
                                  · intro w'
                                    go_simp
                                    with_reducible rfl
                                  rotate_left
                                  · simp only [Act.put, List.setIfInBounds_toArray, List.set_cons_zero, List.set_cons_succ, i64_w, i32_w]
                                    rfl
                                  refine pure_ (i := 7) (N := some 109) (v := ?_) (a' := ?_) #[true, true, true, true, true, true, true, true] rfl rfl (any_of HT_.out (by kernel_rfl)) (fun _ _ _ h => h) (Or.inl ⟨by rfl, ?_⟩) ?_ ?_
                                  rotate_left
                                  · intro w'
                                    go_simp
                                    with_reducible rfl
                                  rotate_left
                                  · simp only [Act.put, List.setIfInBounds_toArray, List.set_cons_zero, List.set_cons_succ, i64_w, i32_w]
                                    rfl
                                  refine done_ (done_of HT_.out (by kernel_rfl)) ?_
                                  obtain ⟨Ao36, co36, eo36⟩ := Kd.V_slice HO_11.out
                                  subst eo36
                                  try go_wp2_with (first | ((with_reducible refine gate_callee (f := 66) rfl ?_); refine goesL_ (some 117) rfl rfl Try.func66 (by kernel_rfl) rfl #[.slice Ao36 x11_5.length co36, .agg #[.int .i64 a3, .int .i64 (wrap64 (a4 + 1)), .int .i64 (wrap64 (50 + x15_5)), .int .i64 0, .int .i64 0]] rfl (by (try simp only [List.map_toArray, List.map_cons, List.map_nil]); first | done | rfl | (simp only [List.length_drop, List.length_take]; rfl)) ?_; (with_reducible refine (interlocutorref6_put.calls k5 (fun k_ => ((w.heap.size ≤ k_) ∧ k_ ≠ gb265)) _ _ x11_5 a3 (wrap64 (a4 + 1)) (wrap64 (50 + x15_5)) 0 0 t281 _ ?side1 A34.out).mono ?_); (case side1 => exact HO_11.out); rintro e w37 ⟨v282, rfl, ho0, hb⟩; refine ⟨_, rfl, ?_⟩; have n0_ := Aside0.mk (Kd.V_below (by exact vU HO_11.out) hb); have n1_ := Aside0.mk (Kd.V_lower (Kd.V_mono (ok' := fun k_ => (w.heap.size ≤ k_) ∧ k_ ≠ gb265) ho0 (fun k_ hk_ => ⟨Or.elim hk_ (fun hs_ => hs_.1) (fun hn_ => (Nat.le_trans (below_size (by exact wS HB.out GE265.out)) hn_)), Or.elim hk_ (fun hs_ => hs_.2) (fun hn_ => (Kd.freshB (g := gb265) (o := .cells #[.string a0_0, .int .i64 a0_1, .int .i64 a0_2, .slice A0_3 l0_3.length c0_3, .slice A0_4 l0_4.length c0_4, .slice A0_5 l0_5.length c0_5] 32 (0, 0)) (by (with_reducible repeat (first | refine blk_drewN ?_ _ | refine blk_drew ?_ | refine blk_alloc ?_ _)); exact BK265.out) k_ hn_))⟩)) (below_size (by exact wS HB.out GE265.out))); have n2_ := Aside0.mk (blk_below (g := gb265) (o := .cells #[.string a0_0, .int .i64 a0_1, .int .i64 a0_2, .slice A0_3 l0_3.length c0_3, .slice A0_4 l0_4.length c0_4, .slice A0_5 l0_5.length c0_5] 32 (0, 0)) (by (with_reducible repeat (first | refine blk_drewN ?_ _ | refine blk_drew ?_ | refine blk_alloc ?_ _)); exact BK265.out) hb); have n3_ := Aside0.mk (below_step (by exact wS HB.out GE265.out) hb); clear HO_11; clear BK265; clear HB; have HO_11 := n0_; have HO283 := n1_; have BK265 := n2_; have HB := n3_; clear n0_ n1_ n2_ n3_; (try clear hb); (try clear hb2); (try clear hk); (try clear hi); (try clear ho0)))
                                  go_roundg k5
                                  case measure => have := HJ5.out; have := HJ12.out; have := HJ14.out; have := HK4.out; have := HK5.out; omega
                                  case rel => exact ⟨(t281), (wrap64 (x15_5 + 1)), (by first | rfl | (simp; done) | (simp [*]; done)), H', ⟨by have := HJ5.out; have := HJ12.out; have := HJ14.out; have := HK4.out; have := HK5.out; omega⟩, ⟨by exact vU HO283.out⟩, ⟨by (with_reducible repeat (first | refine blk_drewN ?_ _ | refine blk_drew ?_ | refine blk_alloc ?_ _)); exact BK265.out⟩, ⟨by exact wS HB.out GE265.out⟩⟩
                                · rw [if_neg c33] at H
                                  have c33b0 : ((rd l2 a4) == (wrap64 (bt (⟨#[47, 45, 46, 44, 58, 43, 36, 37, 40, 41, 39]⟩ : ByteArray) x15_5))) = false := beq_eq_false_iff_ne.mpr c33
                                  have c33b1 : ((rd l2 a4) != (wrap64 (bt (⟨#[47, 45, 46, 44, 58, 43, 36, 37, 40, 41, 39]⟩ : ByteArray) x15_5))) = true := bne_iff_ne.mpr c33
                                  have H' := Aside0.mk H
                                  clear H
                                  try go_wp2
                                  have n0_ := Aside0.mk (Kd.V_drew HO_11.out)
                                  have n1_ := Aside0.mk (blk_drew BK265.out)
                                  have n2_ := Aside0.mk (below_drew1 HB.out)
                                  clear HO_11 BK265 HB
                                  have HO_11 := n0_
                                  have BK265 := n1_
                                  have HB := n2_
                                  clear n0_ n1_ n2_
                                  have p280 : 0 ≤ (a4 : Int) := of_decide_eq_true (by first | (with_reducible assumption) | assumption)
                                  have q280 : a4 < (l2.length : Int) := of_decide_eq_true (by first | (with_reducible assumption) | assumption)
                                  obtain ⟨ad280, e280, hx280_0⟩ := Kd.at_int HR2.out a4 p280 q280
                                  have hw280_0 := hx280_0
                                  cases e280
                                  replace hx280_0 := (HB.out.cell (World.block_lt_of_cell? w _ hx280_0)).trans hx280_0
                                  replace p280 := eq_true p280
                                  replace q280 := eq_true q280
                                  have p32 : 0 ≤ (x15_5 : Int) := of_decide_eq_true (by first | (with_reducible assumption) | assumption)
                                  have q32 : x15_5 < (11 : Int) := of_decide_eq_true (by first | (with_reducible assumption) | assumption)
                                  have hx32 := bt_at (⟨#[47, 45, 46, 44, 58, 43, 36, 37, 40, 41, 39]⟩ : ByteArray) x15_5
                                  replace p32 := eq_true p32
                                  replace q32 := eq_true q32
                                  refine start_ (n := 8) (S := fun w' => w'.cell? (ad280.add (a4).toNat) = some (.int .i64 (rd l2 a4))) (ds := []) #[false, false, false, false, false, false, false, false] (by kernel_rfl) rfl rfl (((HB.out.cell (World.block_lt_of_cell? w _ hw280_0)).trans hw280_0)) (fun hHeld => ?_); refine with_tabW interlocutorref6_from.tab16 interlocutorref6_from.bits16 (fun HT_ HW_ => ?_)
                                  generalize wr.drew = w38 at HO_11 BK265 HB hx280_0 hHeld ⊢
                                  refine pure_ (i := 0) (N := some 102) (v := ?_) (a' := ?_) #[true, false, false, false, false, false, false, false] rfl rfl (any_of HT_.out (by kernel_rfl)) (fun _ _ _ h => h) (Or.inl ⟨by rfl, ?_⟩) ?_ ?_
                                  rotate_left
                                  · intro w'
                                    go_simp
                                    with_reducible rfl
                                  rotate_left
                                  · simp only [Act.put, List.setIfInBounds_toArray, List.set_cons_zero, List.set_cons_succ, i64_w, i32_w]
                                    rfl
                                  refine pure_ (i := 1) (N := some 103) (v := ?_) (a' := ?_) #[true, true, false, false, false, false, false, false] rfl rfl (any_of HT_.out (by kernel_rfl)) (fun _ _ _ h => h) (Or.inl ⟨by rfl, ?_⟩) ?_ ?_
                                  rotate_left
                                  · intro w'
                                    go_simp
                                    with_reducible rfl
                                  rotate_left
                                  · simp only [Act.put, List.setIfInBounds_toArray, List.set_cons_zero, List.set_cons_succ, i64_w, i32_w]
                                    rfl
                                  refine pure_ (i := 2) (N := some 104) (v := ?_) (a' := ?_) #[true, true, true, false, false, false, false, false] rfl rfl (any_of HT_.out (by kernel_rfl)) (fun _ _ _ h => h) (Or.inl ⟨by rfl, ?_⟩) ?_ ?_
                                  rotate_left
                                  · intro w'
                                    go_simp
                                    with_reducible rfl
                                  rotate_left
                                  · simp only [Act.put, List.setIfInBounds_toArray, List.set_cons_zero, List.set_cons_succ, i64_w, i32_w]
                                    rfl
                                  refine pure_ (i := 4) (N := some 106) (v := ?_) (a' := ?_) #[true, true, true, false, true, false, false, false] rfl rfl (any_of HT_.out (by kernel_rfl)) (fun _ _ _ h => h) (Or.inl ⟨by rfl, ?_⟩) ?_ ?_
                                  rotate_left
                                  · intro w'
                                    go_simp
                                    with_reducible rfl
                                  rotate_left
                                  · simp only [Act.put, List.setIfInBounds_toArray, List.set_cons_zero, List.set_cons_succ, i64_w, i32_w]
                                    rfl
                                  refine take_ (i := 3) (N := some 105) (v := ?_) (a' := ?_) #[true, true, true, true, true, false, false, false] rfl rfl (take_ofW HT_.out HW_.out (by kernel_rfl)) (fun _ _ _ h => h) (Or.inl ⟨by rfl, ?_⟩) hHeld ?_ ?_
                                  rotate_left
                                  · intro w' s0
                                    go_simp
                                    with_reducible rfl
                                  rotate_left
                                  · simp only [Act.put, List.setIfInBounds_toArray, List.set_cons_zero, List.set_cons_succ, i64_w, i32_w]
                                    rfl
                                  refine take_ (i := 5) (N := some 107) (v := ?_) (a' := ?_) #[true, true, true, true, true, true, false, false] rfl rfl (take_ofW HT_.out HW_.out (by kernel_rfl)) (fun _ _ _ h => h) (Or.inl ⟨by rfl, ?_⟩) hHeld ?_ ?_
                                  rotate_left
                                  · intro w' s0
                                    go_simp
                                    with_reducible rfl
                                  rotate_left
                                  · simp only [Act.put, List.setIfInBounds_toArray, List.set_cons_zero, List.set_cons_succ, i64_w, i32_w]
                                    rfl
                                  refine pure_ (i := 6) (N := some 108) (v := ?_) (a' := ?_) #[true, true, true, true, true, true, true, false] rfl rfl (any_of HT_.out (by kernel_rfl)) (fun _ _ _ h => h) (Or.inl ⟨by rfl, ?_⟩) ?_ ?_
                                  rotate_left
                                  · intro w'
                                    go_simp
                                    with_reducible rfl
                                  rotate_left
                                  · simp only [Act.put, List.setIfInBounds_toArray, List.set_cons_zero, List.set_cons_succ, i64_w, i32_w]
                                    rfl
                                  refine pure_ (i := 7) (N := some 109) (v := ?_) (a' := ?_) #[true, true, true, true, true, true, true, true] rfl rfl (any_of HT_.out (by kernel_rfl)) (fun _ _ _ h => h) (Or.inl ⟨by rfl, ?_⟩) ?_ ?_
                                  rotate_left
                                  · intro w'
                                    go_simp
                                    with_reducible rfl
                                  rotate_left
                                  · simp only [Act.put, List.setIfInBounds_toArray, List.set_cons_zero, List.set_cons_succ, i64_w, i32_w]
                                    rfl
                                  refine done_ (done_of HT_.out (by kernel_rfl)) ?_
                                  try go_wp2
                                  go_roundg k5
                                  case measure => have := HJ5.out; have := HJ12.out; have := HJ14.out; have := HK4.out; have := HK5.out; omega
                                  case rel => exact ⟨(x11_5), (wrap64 (x15_5 + 1)), (by first | rfl | (simp; done) | (simp [*]; done)), H', ⟨by have := HJ5.out; have := HJ12.out; have := HJ14.out; have := HK4.out; have := HK5.out; omega⟩, ⟨by exact vU HO_11.out⟩, ⟨by (with_reducible repeat (first | refine blk_drewN ?_ _ | refine blk_drew ?_ | refine blk_alloc ?_ _)); exact BK265.out⟩, ⟨by exact wS HB.out GE265.out⟩⟩
                              · rw [if_neg c31] at H
                                exact absurd H (by simp)
                            · rw [if_neg c30] at H
                              exact absurd H (by simp)
                          · rw [if_neg c29] at H
                            exact absurd H (by simp)
                        · rw [if_neg c28] at H
                          have c28b0 : decide (x15_5 < 11) = false := decide_eq_false c28
                          clear c28
                          obtain rfl := Option.some.inj H
                          go_wp2
                          go_ret
                          exact ⟨_, by first | rfl | (simp [errW_none, errW_some] <;> rfl) | (simp [*, errW_none, errW_some] <;> rfl), by exact vU (Kd.V_mono HO_11.out (fun _ hk => hk.1)), by exact wS HB.out GE265.out⟩
end Go.Proofs.Ytgbnfjhmobeloaa.G
