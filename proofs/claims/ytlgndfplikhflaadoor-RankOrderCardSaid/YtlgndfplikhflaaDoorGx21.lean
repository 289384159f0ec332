-- printed by wip/tool/gprint.py, a program of this work, out of the translation; Lean checks it
import Derived.Test.YtlgndfplikhflaaDoorGx0
import Derived.Test.YtlgndfplikhflaaDoorGx12
import Derived.Test.YtlgndfplikhflaaDoorGx15
import Derived.Test.YtlgndfplikhflaaDoorGx16
namespace Go.Proofs.YtlgndfplikhflaaDoor.G
open Go.RowKit Go.Proofs.YtlgndfplikhflaaDoorW.PrintWords Go.Proofs.YtlgndfplikhflaaDoorW.PrintLast Go.Proofs.YtlgndfplikhflaaDoorW.PrintMore Go.Proofs.YtlgndfplikhflaaDoorW.VWords Go.Proofs.YtlgndfplikhflaaDoorW.Tab
attribute [local go_sem] max2_int min2_int max_two min_two max_three min_three max_four min_four   -- for this text's walks alone
set_option linter.unusedVariables false
set_option linter.unusedSimpArgs false

/-! ### interlocutorlaw10_RankOrder: function 5 -/
abbrev N5 : Bool := false
abbrev Y5 : Bool := true
theorem pq5 : (∀ (t : Array Value) d (n : Nat) (v : Value), Act.put ⟨t, d⟩ (some n) v = ⟨t.setIfInBounds n v, d⟩) ∧ (∀ (l : List Value) (n : Nat) (v : Value), l.toArray.setIfInBounds n v = (l.set n v).toArray) ∧ (∀ (x v : Value) (l : List Value), (x :: l).set 0 v = v :: l) ∧ (∀ (x v : Value) (l : List Value) (n : Nat), (x :: l).set (n + 1) v = x :: l.set n v) ∧ (∀ z : Int, IntKind.i64.wrap z = wrap64 z) ∧ (∀ z : Int, IntKind.i32.wrap z = wrap32 z) := ⟨fun _ _ _ _ => rfl, fun _ _ _ => List.setIfInBounds_toArray .., fun _ _ _ => List.set_cons_zero .., fun _ _ _ _ => List.set_cons_succ .., i64_w, i32_w⟩
mutual
def interlocutorlaw10_RankOrder.j0 : Nat → List (S36) → List (S36) → Bool → Option (Bool)
  | 0, _, _, _ => none
  | k + 1, x5, x6, x50 => if x50 = true then (some false) else (interlocutorlaw10_RankOrder.l0 k x5 x6 0)
def interlocutorlaw10_RankOrder.l0 : Nat → List (S36) → List (S36) → Int → Option (Bool)
  | 0, _, _, _ => none
  | k + 1, x5, x6, x11 => if x11 < (x6.length : Int) then (if x11 > 0 then (if 0 ≤ (wrap64 (x11 - 1)) then (if (wrap64 (x11 - 1)) < (x6.length : Int) then (if 0 ≤ x11 then (if ((rd_T36 x6 (wrap64 (x11 - 1))).f1) > ((rd_T36 x6 x11).f1) then (interlocutorlaw10_RankOrder.j2 k x5 x6 x11 true) else (if ((rd_T36 x6 (wrap64 (x11 - 1))).f1) = ((rd_T36 x6 x11).f1) then ((interlocutorref10_Cmp.f k ((rd_T36 x6 (wrap64 (x11 - 1))).f0.f0) ((rd_T36 x6 (wrap64 (x11 - 1))).f0.f1) ((rd_T36 x6 x11).f0.f0) ((rd_T36 x6 x11).f0.f1)).bind fun t413 => (interlocutorlaw10_RankOrder.j2 k x5 x6 x11 (decide (t413 ≥ 0)))) else (interlocutorlaw10_RankOrder.j2 k x5 x6 x11 false))) else (none)) else (none)) else (none)) else (interlocutorlaw10_RankOrder.j2 k x5 x6 x11 false)) else (some true)
def interlocutorlaw10_RankOrder.j2 : Nat → List (S36) → List (S36) → Int → Bool → Option (Bool)
  | 0, _, _, _, _ => none
  | k + 1, x5, x6, x11, x101 => if x101 = true then (some false) else (interlocutorlaw10_RankOrder.l1 k x5 x6 x11 false 0)
def interlocutorlaw10_RankOrder.l1 : Nat → List (S36) → List (S36) → Int → Bool → Int → Option (Bool)
  | 0, _, _, _, _, _ => none
  | k + 1, x5, x6, x11, x12, x13 => if x13 < (x5.length : Int) then (if 0 ≤ x13 then (if 0 ≤ x11 then (if x11 < (x6.length : Int) then ((interlocutorref10_Cmp.f k ((rd_T36 x5 x13).f0.f0) ((rd_T36 x5 x13).f0.f1) ((rd_T36 x6 x11).f0.f0) ((rd_T36 x6 x11).f0.f1)).bind fun t416 => (if t416 = 0 then (if x12 = true then (if ((rd_T36 x5 x13).f1) < ((rd_T36 x6 x11).f1) then (some false) else (interlocutorlaw10_RankOrder.l1 k x5 x6 x11 true (wrap64 (x13 + 1)))) else (if ((rd_T36 x5 x13).f1) < ((rd_T36 x6 x11).f1) then (some false) else (interlocutorlaw10_RankOrder.l1 k x5 x6 x11 (((rd_T36 x5 x13).f1) == ((rd_T36 x6 x11).f1)) (wrap64 (x13 + 1))))) else (interlocutorlaw10_RankOrder.l1 k x5 x6 x11 x12 (wrap64 (x13 + 1))))) else (none)) else (none)) else (none)) else (if x12 = true then (interlocutorlaw10_RankOrder.l0 k x5 x6 (wrap64 (x11 + 1))) else (some false))
end
def interlocutorlaw10_RankOrder.f (k : Nat) (l0 : List Int) (a1 : Int) : Option (Bool) := (interlocutorlaw10_known.f).bind fun t388 => (if t388 = true then ((interlocutorlaw10_Make.f k l0 40).bind fun t389 => ((rank_Best.f t389 1000).bind fun bt392 => ((interlocutorlaw10_within.f a1 50).bind fun t396 => ((rank_Best.f t389 t396).bind fun bt397 => (if bt392.2 = true then (interlocutorlaw10_RankOrder.j0 k t389 bt392.1 true) else (if (bt397.2 != (decide ((bt392.1.length : Int) > t396))) = true then (interlocutorlaw10_RankOrder.j0 k t389 bt392.1 true) else (if 0 ≤ (mn t396 (bt392.1.length : Int)) then (if (mn t396 (bt392.1.length : Int)) ≤ (bt392.1.length : Int) then ((interlocutorref10_Same.f k bt397.1 (bt392.1.take ((mn t396 (bt392.1.length : Int)) : Int).toNat)).bind fun t406 => (interlocutorlaw10_RankOrder.j0 k t389 bt392.1 (!t406))) else (none)) else (none)))))))) else (some false))
theorem interlocutorlaw10_RankOrder.mono_l : ∀ k, (∀ y0 y1 y2, LeO (interlocutorlaw10_RankOrder.j0 k y0 y1 y2) (interlocutorlaw10_RankOrder.j0 (k + 1) y0 y1 y2)) ∧ (∀ y0 y1 y2, LeO (interlocutorlaw10_RankOrder.l0 k y0 y1 y2) (interlocutorlaw10_RankOrder.l0 (k + 1) y0 y1 y2)) ∧ (∀ y0 y1 y2 y3, LeO (interlocutorlaw10_RankOrder.j2 k y0 y1 y2 y3) (interlocutorlaw10_RankOrder.j2 (k + 1) y0 y1 y2 y3)) ∧ (∀ y0 y1 y2 y3 y4, LeO (interlocutorlaw10_RankOrder.l1 k y0 y1 y2 y3 y4) (interlocutorlaw10_RankOrder.l1 (k + 1) y0 y1 y2 y3 y4))
  | 0 => ⟨fun _ _ _ r h => by simp [interlocutorlaw10_RankOrder.j0] at h, fun _ _ _ r h => by simp [interlocutorlaw10_RankOrder.l0] at h, fun _ _ _ _ r h => by simp [interlocutorlaw10_RankOrder.j2] at h, fun _ _ _ _ _ r h => by simp [interlocutorlaw10_RankOrder.l1] at h⟩
  | k + 1 => by
    obtain ⟨ih0, ih1, ih2, ih3⟩ := interlocutorlaw10_RankOrder.mono_l k
    refine ⟨?_, ?_, ?_, ?_⟩
    · intro y0 y1 y2
      unfold interlocutorlaw10_RankOrder.j0
      repeat' first
      | (with_reducible exact ih0 _ _ _)
      | (with_reducible exact ih1 _ _ _)
      | (with_reducible exact ih2 _ _ _ _)
      | (with_reducible exact ih3 _ _ _ _ _)
      | (with_reducible exact interlocutorlaw10_Make.mono _ _ _)
      | (with_reducible exact interlocutorref10_Cmp.mono _ _ _ _ _)
      | (with_reducible exact interlocutorref10_Same.mono _ _ _)
      | (with_reducible exact LeO.refl _)
      | (with_reducible exact LeO.none _)
      | (with_reducible refine LeO.ite ?_ ?_)
      | (with_reducible refine LeO.bind ?_ (fun _ => ?_))
      | exact ih0 _ _ _
      | exact ih1 _ _ _
      | exact ih2 _ _ _ _
      | exact ih3 _ _ _ _ _
      | exact interlocutorlaw10_Make.mono _ _ _
      | exact interlocutorref10_Cmp.mono _ _ _ _ _
      | exact interlocutorref10_Same.mono _ _ _
      | exact LeO.none _
      | refine LeO.ite ?_ ?_
      | refine LeO.bind ?_ (fun _ => ?_)
    · intro y0 y1 y2
      unfold interlocutorlaw10_RankOrder.l0
      repeat' first
      | (with_reducible exact ih0 _ _ _)
      | (with_reducible exact ih1 _ _ _)
      | (with_reducible exact ih2 _ _ _ _)
      | (with_reducible exact ih3 _ _ _ _ _)
      | (with_reducible exact interlocutorlaw10_Make.mono _ _ _)
      | (with_reducible exact interlocutorref10_Cmp.mono _ _ _ _ _)
      | (with_reducible exact interlocutorref10_Same.mono _ _ _)
      | (with_reducible exact LeO.refl _)
      | (with_reducible exact LeO.none _)
      | (with_reducible refine LeO.ite ?_ ?_)
      | (with_reducible refine LeO.bind ?_ (fun _ => ?_))
      | exact ih0 _ _ _
      | exact ih1 _ _ _
      | exact ih2 _ _ _ _
      | exact ih3 _ _ _ _ _
      | exact interlocutorlaw10_Make.mono _ _ _
      | exact interlocutorref10_Cmp.mono _ _ _ _ _
      | exact interlocutorref10_Same.mono _ _ _
      | exact LeO.none _
      | refine LeO.ite ?_ ?_
      | refine LeO.bind ?_ (fun _ => ?_)
    · intro y0 y1 y2 y3
      unfold interlocutorlaw10_RankOrder.j2
      repeat' first
      | (with_reducible exact ih0 _ _ _)
      | (with_reducible exact ih1 _ _ _)
      | (with_reducible exact ih2 _ _ _ _)
      | (with_reducible exact ih3 _ _ _ _ _)
      | (with_reducible exact interlocutorlaw10_Make.mono _ _ _)
      | (with_reducible exact interlocutorref10_Cmp.mono _ _ _ _ _)
      | (with_reducible exact interlocutorref10_Same.mono _ _ _)
      | (with_reducible exact LeO.refl _)
      | (with_reducible exact LeO.none _)
      | (with_reducible refine LeO.ite ?_ ?_)
      | (with_reducible refine LeO.bind ?_ (fun _ => ?_))
      | exact ih0 _ _ _
      | exact ih1 _ _ _
      | exact ih2 _ _ _ _
      | exact ih3 _ _ _ _ _
      | exact interlocutorlaw10_Make.mono _ _ _
      | exact interlocutorref10_Cmp.mono _ _ _ _ _
      | exact interlocutorref10_Same.mono _ _ _
      | exact LeO.none _
      | refine LeO.ite ?_ ?_
      | refine LeO.bind ?_ (fun _ => ?_)
    · intro y0 y1 y2 y3 y4
      unfold interlocutorlaw10_RankOrder.l1
      repeat' first
      | (with_reducible exact ih0 _ _ _)
      | (with_reducible exact ih1 _ _ _)
      | (with_reducible exact ih2 _ _ _ _)
      | (with_reducible exact ih3 _ _ _ _ _)
      | (with_reducible exact interlocutorlaw10_Make.mono _ _ _)
      | (with_reducible exact interlocutorref10_Cmp.mono _ _ _ _ _)
      | (with_reducible exact interlocutorref10_Same.mono _ _ _)
      | (with_reducible exact LeO.refl _)
      | (with_reducible exact LeO.none _)
      | (with_reducible refine LeO.ite ?_ ?_)
      | (with_reducible refine LeO.bind ?_ (fun _ => ?_))
      | exact ih0 _ _ _
      | exact ih1 _ _ _
      | exact ih2 _ _ _ _
      | exact ih3 _ _ _ _ _
      | exact interlocutorlaw10_Make.mono _ _ _
      | exact interlocutorref10_Cmp.mono _ _ _ _ _
      | exact interlocutorref10_Same.mono _ _ _
      | exact LeO.none _
      | refine LeO.ite ?_ ?_
      | refine LeO.bind ?_ (fun _ => ?_)
theorem interlocutorlaw10_RankOrder.mono : ∀ a0 a1 k, LeO (interlocutorlaw10_RankOrder.f k a0 a1) (interlocutorlaw10_RankOrder.f (k + 1) a0 a1) := by
  intro a0 a1 k
  obtain ⟨ih0, ih1, ih2, ih3⟩ := interlocutorlaw10_RankOrder.mono_l k
  unfold interlocutorlaw10_RankOrder.f
  repeat' first
      | (with_reducible exact ih0 _ _ _)
      | (with_reducible exact ih1 _ _ _)
      | (with_reducible exact ih2 _ _ _ _)
      | (with_reducible exact ih3 _ _ _ _ _)
      | (with_reducible exact interlocutorlaw10_Make.mono _ _ _)
      | (with_reducible exact interlocutorref10_Cmp.mono _ _ _ _ _)
      | (with_reducible exact interlocutorref10_Same.mono _ _ _)
      | (with_reducible exact LeO.refl _)
      | (with_reducible exact LeO.none _)
      | (with_reducible refine LeO.ite ?_ ?_)
      | (with_reducible refine LeO.bind ?_ (fun _ => ?_))
      | exact ih0 _ _ _
      | exact ih1 _ _ _
      | exact ih2 _ _ _ _
      | exact ih3 _ _ _ _ _
      | exact interlocutorlaw10_Make.mono _ _ _
      | exact interlocutorref10_Cmp.mono _ _ _ _ _
      | exact interlocutorref10_Same.mono _ _ _
      | exact LeO.none _
      | refine LeO.ite ?_ ?_
      | refine LeO.bind ?_ (fun _ => ?_)
def interlocutorlaw10_RankOrder.T12 : Bool × List (List Nat × List Nat) := (true, [([], []), ([0], [0]), ([1], [1]), ([2], [2]), ([2], [2]), ([4, 2], [2, 4]), ([3, 5, 2], [2, 3, 5]), ([6, 2], [2, 6]), ([7, 2], [2, 7]), ([2], [2]), ([2], [2]), ([9, 10, 2], [2, 9, 10]), ([11, 2], [2, 11]), ([12, 2], [2, 12]), ([8, 13, 2], [2, 8, 13]), ([14, 2, 2], [2, 14]), ([15], [15]), ([15], [15]), ([17, 15], [15, 17]), ([16, 18, 15], [15, 16, 18]), ([19, 15], [15, 19]), ([20, 15], [15, 20]), ([15], [15]), ([15], [15]), ([22, 23, 15], [15, 22, 23]), ([24, 15], [15, 24]), ([25, 15], [15, 25]), ([21, 26, 15], [15, 21, 26]), ([27, 15, 15], [15, 27]), ([28], [28]), ([28], [28]), ([30, 28], [28, 30]), ([29, 31, 28], [28, 29, 31]), ([32, 28], [28, 32]), ([33, 28], [28, 33]), ([28], [28]), ([28], [28]), ([35, 36, 28], [28, 35, 36]), ([37, 28], [28, 37]), ([38, 28], [28, 38]), ([34, 39, 28, 28], [28, 34, 39]), ([40, 28], [28, 40]), ([28, 41, 15], [15, 28, 41]), ([15, 42, 2], [2, 15, 42]), ([2, 43], [2, 43])])
def interlocutorlaw10_RankOrder.B12 : List Nat := [0, 1, 3, 7, 7, 23, 63, 127, 255, 7, 7, 1543, 3591, 7687, 16383, 32767, 65535, 65535, 196607, 524287, 1048575, 2097151, 65535, 65535, 12648447, 29425663, 62980095, 134217727, 268435455, 536870911, 536870911, 1610612735, 4294967295, 8589934591, 17179869183, 536870911, 536870911, 103616086015, 241055039487, 515932946431, 1099511627775, 2199023255551, 4398046511103, 8796093022207, 17592186044415]
theorem interlocutorlaw10_RankOrder.tab12 : rtab .any (opsOf Tryd.f5 12) = interlocutorlaw10_RankOrder.T12 := by kernel_rfl
theorem interlocutorlaw10_RankOrder.bits12 : waitsOk interlocutorlaw10_RankOrder.T12.2 interlocutorlaw10_RankOrder.B12 = true := by kernel_rfl
def interlocutorlaw10_RankOrder.T18 : Bool × List (List Nat × List Nat) := (true, [([], []), ([], []), ([0, 1], [0, 1]), ([2], [2]), ([3], [3]), ([], []), ([], []), ([5, 6], [5, 6]), ([7], [7]), ([8], [8]), ([4, 9], [4, 9]), ([10], [10])])
def interlocutorlaw10_RankOrder.B18 : List Nat := [0, 0, 3, 7, 15, 0, 0, 96, 224, 480, 1023, 2047]
theorem interlocutorlaw10_RankOrder.tab18 : rtab .any (opsOf Tryd.f5 18) = interlocutorlaw10_RankOrder.T18 := by kernel_rfl
theorem interlocutorlaw10_RankOrder.bits18 : waitsOk interlocutorlaw10_RankOrder.T18.2 interlocutorlaw10_RankOrder.B18 = true := by kernel_rfl
def interlocutorlaw10_RankOrder.T19 : Bool × List (List Nat × List Nat) := (true, [([], []), ([0], [0]), ([1], [1]), ([1], [1]), ([2, 3, 1], [1, 2, 3]), ([4, 1], [1, 4]), ([5, 1], [1, 5]), ([1], [1]), ([1], [1]), ([7, 8, 1], [1, 7, 8]), ([9, 1], [1, 9]), ([10, 1], [1, 10]), ([6, 11, 1], [1, 6, 11]), ([1, 12], [1, 12]), ([13, 1, 0, 1, 2, 3, 4, 5, 6, 7, 8, 9, 10, 11, 12, 13], [0, 13])])
def interlocutorlaw10_RankOrder.B19 : List Nat := [0, 1, 3, 3, 15, 31, 63, 3, 3, 387, 899, 1923, 4095, 8191, 16383]
theorem interlocutorlaw10_RankOrder.tab19 : rtab .any (opsOf Tryd.f5 19) = interlocutorlaw10_RankOrder.T19 := by kernel_rfl
theorem interlocutorlaw10_RankOrder.bits19 : waitsOk interlocutorlaw10_RankOrder.T19.2 interlocutorlaw10_RankOrder.B19 = true := by kernel_rfl
def interlocutorlaw10_RankOrder.T20 : Bool × List (List Nat × List Nat) := (true, [([], []), ([], []), ([0, 1], [0, 1]), ([2], [2]), ([3], [3]), ([], []), ([], []), ([5, 6], [5, 6]), ([7], [7]), ([8], [8]), ([4, 9], [4, 9])])
def interlocutorlaw10_RankOrder.B20 : List Nat := [0, 0, 3, 7, 15, 0, 0, 96, 224, 480, 1023]
theorem interlocutorlaw10_RankOrder.tab20 : rtab .any (opsOf Tryd.f5 20) = interlocutorlaw10_RankOrder.T20 := by kernel_rfl
theorem interlocutorlaw10_RankOrder.bits20 : waitsOk interlocutorlaw10_RankOrder.T20.2 interlocutorlaw10_RankOrder.B20 = true := by kernel_rfl
set_option maxHeartbeats 8000000 in
set_option maxRecDepth 100000 in
theorem interlocutorlaw10_RankOrder.calls (k : Nat) (A0 : Option Addr) (c0 : Nat) (l0 : List Int) (a1 : Int) (r : Bool) (w : World) (hr0 : Kd.C (Kd.int .i64) w A0 l0.length l0) (hc0 : l0.length ≤ c0) (h : interlocutorlaw10_RankOrder.f k l0 a1 = some r) (hT_ : TabOK w) :
    Calls Tryd.prog 5 #[.slice A0 l0.length c0, .int .i64 a1] w fun e w' => e = .returned (.bool r) ∧ Below w.heap.size w w' := by
  have HTB_ := Aside0.mk hT_
  clear hT_
  have hu24 := Tryd.underlying24
  have HR0 := Aside0.mk hr0
  have HC0 := Aside0.mk hc0
  clear hr0 hc0
  have HB := Aside0.mk (Below.refl w.heap.size w)
  have H : ((interlocutorlaw10_known.f).bind fun t388 => (if t388 = true then ((interlocutorlaw10_Make.f k l0 40).bind fun t389 => ((rank_Best.f t389 1000).bind fun bt392 => ((interlocutorlaw10_within.f a1 50).bind fun t396 => ((rank_Best.f t389 t396).bind fun bt397 => (if bt392.2 = true then (interlocutorlaw10_RankOrder.j0 k t389 bt392.1 true) else (if (bt397.2 != (decide ((bt392.1.length : Int) > t396))) = true then (interlocutorlaw10_RankOrder.j0 k t389 bt392.1 true) else (if 0 ≤ (mn t396 (bt392.1.length : Int)) then (if (mn t396 (bt392.1.length : Int)) ≤ (bt392.1.length : Int) then ((interlocutorref10_Same.f k bt397.1 (bt392.1.take ((mn t396 (bt392.1.length : Int)) : Int).toNat)).bind fun t406 => (interlocutorlaw10_RankOrder.j0 k t389 bt392.1 (!t406))) else (none)) else (none)))))))) else (some false))) = some r := h
  clear h
  replace H := Option.bind_eq_some_iff.mp H
  obtain ⟨t388, A30, H⟩ := H
  replace H : (if t388 = true then ((interlocutorlaw10_Make.f k l0 40).bind fun t389 => ((rank_Best.f t389 1000).bind fun bt392 => ((interlocutorlaw10_within.f a1 50).bind fun t396 => ((rank_Best.f t389 t396).bind fun bt397 => (if bt392.2 = true then (interlocutorlaw10_RankOrder.j0 k t389 bt392.1 true) else (if (bt397.2 != (decide ((bt392.1.length : Int) > t396))) = true then (interlocutorlaw10_RankOrder.j0 k t389 bt392.1 true) else (if 0 ≤ (mn t396 (bt392.1.length : Int)) then (if (mn t396 (bt392.1.length : Int)) ≤ (bt392.1.length : Int) then ((interlocutorref10_Same.f k bt397.1 (bt392.1.take ((mn t396 (bt392.1.length : Int)) : Int).toNat)).bind fun t406 => (interlocutorlaw10_RankOrder.j0 k t389 bt392.1 (!t406))) else (none)) else (none)))))))) else (some false)) = some r := H
  have A3 := Aside0.mk A30
  clear A30
  by_cases c4 : t388 = true
  rotate_left
  · replace c4 := Bool.eq_false_iff.mpr c4
    subst c4
    have H1 : (some false) = some r := by rw [if_neg (show ¬ (false = true) by decide)] at H; exact H
    clear H
    have H := H1
    clear H1
    obtain rfl := Option.some.inj H
    go_enter Tryd.func5, Tryd.ntmps5
    go_wp2_with (first | ((with_reducible refine gate_callee (f := 13) rfl ?_); refine goesL_ (some 14) rfl rfl Tryd.func13 (by kernel_rfl) rfl #[] rfl (by (try simp only [List.map_toArray, List.map_cons, List.map_nil]); first | done | rfl | (simp only [List.length_drop, List.length_take]; rfl)) ?_; (with_reducible refine (interlocutorlaw10_known.calls  false _ A3.out ?hT_).mono ?_); (case hT_ => first | exact HTB_.out | exact tab_below HTB_.out (by repeat (first | (with_reducible first | exact HB.out | apply below_alloc | apply pw_below_drewN | apply below_drew1) | exact HB.out))); rintro e w73 ⟨rfl, hb⟩; refine ⟨_, rfl, ?_⟩; have n0_ := Aside0.mk (below_step (by repeat (first | (with_reducible first | exact HB.out | apply below_alloc | apply pw_below_drewN | apply below_drew1) | exact HB.out)) hb); clear HB; have HB := n0_; clear n0_; (try clear hb); (try clear hb2); (try clear hk); (try clear hi)))
    go_ret
    exact ⟨by first | rfl | (simp [errW_none, errW_some] <;> rfl) | (simp [*, errW_none, errW_some] <;> rfl), by repeat (first | (with_reducible first | exact HB.out | apply below_alloc | apply pw_below_drewN | apply below_drew1) | exact HB.out)⟩
  subst c4
  have H1 : ((interlocutorlaw10_Make.f k l0 40).bind fun t389 => ((rank_Best.f t389 1000).bind fun bt392 => ((interlocutorlaw10_within.f a1 50).bind fun t396 => ((rank_Best.f t389 t396).bind fun bt397 => (if bt392.2 = true then (interlocutorlaw10_RankOrder.j0 k t389 bt392.1 true) else (if (bt397.2 != (decide ((bt392.1.length : Int) > t396))) = true then (interlocutorlaw10_RankOrder.j0 k t389 bt392.1 true) else (if 0 ≤ (mn t396 (bt392.1.length : Int)) then (if (mn t396 (bt392.1.length : Int)) ≤ (bt392.1.length : Int) then ((interlocutorref10_Same.f k bt397.1 (bt392.1.take ((mn t396 (bt392.1.length : Int)) : Int).toNat)).bind fun t406 => (interlocutorlaw10_RankOrder.j0 k t389 bt392.1 (!t406))) else (none)) else (none)))))))) = some r := by rw [if_pos rfl] at H; exact H
  clear H
  have H := H1
  clear H1
  replace H := Option.bind_eq_some_iff.mp H
  obtain ⟨t389, A50, H⟩ := H
  replace H : ((rank_Best.f t389 1000).bind fun bt392 => ((interlocutorlaw10_within.f a1 50).bind fun t396 => ((rank_Best.f t389 t396).bind fun bt397 => (if bt392.2 = true then (interlocutorlaw10_RankOrder.j0 k t389 bt392.1 true) else (if (bt397.2 != (decide ((bt392.1.length : Int) > t396))) = true then (interlocutorlaw10_RankOrder.j0 k t389 bt392.1 true) else (if 0 ≤ (mn t396 (bt392.1.length : Int)) then (if (mn t396 (bt392.1.length : Int)) ≤ (bt392.1.length : Int) then ((interlocutorref10_Same.f k bt397.1 (bt392.1.take ((mn t396 (bt392.1.length : Int)) : Int).toNat)).bind fun t406 => (interlocutorlaw10_RankOrder.j0 k t389 bt392.1 (!t406))) else (none)) else (none))))))) = some r := H
  have A5 := Aside0.mk A50
  clear A50
  replace H := Option.bind_eq_some_iff.mp H
  obtain ⟨⟨t392, t395⟩, A60, H⟩ := H
  replace H : ((interlocutorlaw10_within.f a1 50).bind fun t396 => ((rank_Best.f t389 t396).bind fun bt397 => (if t395 = true then (interlocutorlaw10_RankOrder.j0 k t389 t392 true) else (if (bt397.2 != (decide ((t392.length : Int) > t396))) = true then (interlocutorlaw10_RankOrder.j0 k t389 t392 true) else (if 0 ≤ (mn t396 (t392.length : Int)) then (if (mn t396 (t392.length : Int)) ≤ (t392.length : Int) then ((interlocutorref10_Same.f k bt397.1 (t392.take ((mn t396 (t392.length : Int)) : Int).toNat)).bind fun t406 => (interlocutorlaw10_RankOrder.j0 k t389 t392 (!t406))) else (none)) else (none)))))) = some r := H
  have A6 := Aside0.mk A60
  clear A60
  replace H := Option.bind_eq_some_iff.mp H
  obtain ⟨t396, A70, H⟩ := H
  replace H : ((rank_Best.f t389 t396).bind fun bt397 => (if t395 = true then (interlocutorlaw10_RankOrder.j0 k t389 t392 true) else (if (bt397.2 != (decide ((t392.length : Int) > t396))) = true then (interlocutorlaw10_RankOrder.j0 k t389 t392 true) else (if 0 ≤ (mn t396 (t392.length : Int)) then (if (mn t396 (t392.length : Int)) ≤ (t392.length : Int) then ((interlocutorref10_Same.f k bt397.1 (t392.take ((mn t396 (t392.length : Int)) : Int).toNat)).bind fun t406 => (interlocutorlaw10_RankOrder.j0 k t389 t392 (!t406))) else (none)) else (none))))) = some r := H
  have A7 := Aside0.mk A70
  clear A70
  replace H := Option.bind_eq_some_iff.mp H
  obtain ⟨⟨t397, t400⟩, A80, H⟩ := H
  replace H : (if t395 = true then (interlocutorlaw10_RankOrder.j0 k t389 t392 true) else (if (t400 != (decide ((t392.length : Int) > t396))) = true then (interlocutorlaw10_RankOrder.j0 k t389 t392 true) else (if 0 ≤ (mn t396 (t392.length : Int)) then (if (mn t396 (t392.length : Int)) ≤ (t392.length : Int) then ((interlocutorref10_Same.f k t397 (t392.take ((mn t396 (t392.length : Int)) : Int).toNat)).bind fun t406 => (interlocutorlaw10_RankOrder.j0 k t389 t392 (!t406))) else (none)) else (none)))) = some r := H
  have A8 := Aside0.mk A80
  clear A80
  have HC9 := Aside0.mk H
  clear H
  go_enter Tryd.func5, Tryd.ntmps5
  go_upto_region 7 with (first | ((with_reducible refine gate_callee (f := 13) rfl ?_); refine goesL_ (some 14) rfl rfl Tryd.func13 (by kernel_rfl) rfl #[] rfl (by (try simp only [List.map_toArray, List.map_cons, List.map_nil]); first | done | rfl | (simp only [List.length_drop, List.length_take]; rfl)) ?_; (with_reducible refine (interlocutorlaw10_known.calls  true _ A3.out ?hT_).mono ?_); (case hT_ => first | exact HTB_.out | exact tab_below HTB_.out (by repeat (first | (with_reducible first | exact HB.out | apply below_alloc | apply pw_below_drewN | apply below_drew1) | exact HB.out))); rintro e w10 ⟨rfl, hb⟩; refine ⟨_, rfl, ?_⟩; have n0_ := Aside0.mk (below_step (by repeat (first | (with_reducible first | exact HB.out | apply below_alloc | apply pw_below_drewN | apply below_drew1) | exact HB.out)) hb); clear HB; have HB := n0_; clear n0_; (try clear hb); (try clear hb2); (try clear hk); (try clear hi)) | ((with_reducible refine gate_callee (f := 16) rfl ?_); refine goesL_ (some 17) rfl rfl Tryd.func16 (by kernel_rfl) rfl #[.slice A0 l0.length c0, .int .i64 40] rfl (by (try simp only [List.map_toArray, List.map_cons, List.map_nil]); first | done | rfl | (simp only [List.length_drop, List.length_take]; rfl)) ?_; (with_reducible refine (interlocutorlaw10_Make.calls k _ _ l0 40 t389 _ ?side1 ?side2 A5.out).mono ?_); (case side1 => repeat (first | exact (Kd.C_below HR0.out HB.out) | (with_reducible refine Kd.C_alloc ?_ _) | (with_reducible refine Kd.C_drewN ?_ _) | (with_reducible refine Kd.C_drew ?_))); (case side2 => exact HC0.out); rintro e w11 ⟨v390, rfl, ho0, hb⟩; refine ⟨_, rfl, ?_⟩; have n0_ := Aside0.mk (Kd.S_lower ho0 (below_size (by repeat (first | (with_reducible first | exact HB.out | apply below_alloc | apply pw_below_drewN | apply below_drew1) | exact HB.out)))); have n1_ := Aside0.mk (below_step (by repeat (first | (with_reducible first | exact HB.out | apply below_alloc | apply pw_below_drewN | apply below_drew1) | exact HB.out)) hb); clear HB; have HO391 := n0_; have HB := n1_; clear n0_ n1_; (try clear hb); (try clear hb2); (try clear hk); (try clear hi); (try clear ho0); obtain ⟨Ao12, co12, eo12⟩ := Kd.S_slice HO391.out; subst eo12) | ((with_reducible refine gate_callee (f := 18) rfl ?_); refine goesL_ (some 20) rfl rfl Tryd.func18 (by kernel_rfl) rfl #[.slice Ao12 t389.length co12, .int .i64 1000] rfl (by (try simp only [List.map_toArray, List.map_cons, List.map_nil]); first | done | rfl | (simp only [List.length_drop, List.length_take]; rfl)) ?_; (with_reducible refine (rank_Best.calls _ _ t389 1000 t392 t395 _ ?side1 ?side2 A6.out ?hT_).mono ?_); (case hT_ => first | exact HTB_.out | exact tab_below HTB_.out (by repeat (first | (with_reducible first | exact HB.out | apply below_alloc | apply pw_below_drewN | apply below_drew1) | exact HB.out))); (case side1 => repeat (first | exact (Kd.S_reads' HO391.out).2.2 | (with_reducible refine Kd.C_alloc ?_ _) | (with_reducible refine Kd.C_drewN ?_ _) | (with_reducible refine Kd.C_drew ?_))); (case side2 => exact (Kd.S_reads' HO391.out).2.1); rintro e w13 ⟨v393, rfl, ho0, hb⟩; refine ⟨_, rfl, ?_⟩; have n0_ := Aside0.mk (Kd.S_below (by (with_reducible repeat (first | apply Kd.S_alloc | apply Kd.S_drewN | apply Kd.S_drew)); exact HO391.out) hb); have n1_ := Aside0.mk (Kd.V_lower (Kd.V_mono (ok' := fun k_ => some k_ ≠ (.slice Ao12 t389.length co12 : Value).ownBlock) ho0 (fun k_ hk_ => (Kd.fresh' (Kd.S_lt (by (with_reducible repeat (first | apply Kd.S_alloc | apply Kd.S_drewN | apply Kd.S_drew)); exact HO391.out)) k_ hk_))) (below_size (by repeat (first | (with_reducible first | exact HB.out | apply below_alloc | apply pw_below_drewN | apply below_drew1) | exact HB.out)))); have n2_ := Aside0.mk (below_step (by repeat (first | (with_reducible first | exact HB.out | apply below_alloc | apply pw_below_drewN | apply below_drew1) | exact HB.out)) hb); clear HO391; clear HB; have HO391 := n0_; have HO394 := n1_; have HB := n2_; clear n0_ n1_ n2_; (try clear hb); (try clear hb2); (try clear hk); (try clear hi); (try clear ho0)) | ((with_reducible refine gate_callee (f := 17) rfl ?_); refine goesL_ (some 24) rfl rfl Tryd.func17 (by kernel_rfl) rfl #[.int .i64 a1, .int .i64 50] rfl (by (try simp only [List.map_toArray, List.map_cons, List.map_nil]); first | done | rfl | (simp only [List.length_drop, List.length_take]; rfl)) ?_; (with_reducible refine (interlocutorlaw10_within.calls a1 50 t396 _ A7.out).mono ?_); rintro e w' ⟨rfl, ⟨nd, rfl⟩⟩; refine ⟨_, rfl, ?_⟩) | ((with_reducible refine gate_callee (f := 18) rfl ?_); refine goesL_ (some 28) rfl rfl Tryd.func18 (by kernel_rfl) rfl #[.slice Ao12 t389.length co12, .int .i64 t396] rfl (by (try simp only [List.map_toArray, List.map_cons, List.map_nil]); first | done | rfl | (simp only [List.length_drop, List.length_take]; rfl)) ?_; (with_reducible refine (rank_Best.calls _ _ t389 t396 t397 t400 _ ?side1 ?side2 A8.out ?hT_).mono ?_); (case hT_ => first | exact HTB_.out | exact tab_below HTB_.out (by repeat (first | (with_reducible first | exact HB.out | apply below_alloc | apply pw_below_drewN | apply below_drew1) | exact HB.out))); (case side1 => repeat (first | exact (Kd.S_reads' HO391.out).2.2 | (with_reducible refine Kd.C_alloc ?_ _) | (with_reducible refine Kd.C_drewN ?_ _) | (with_reducible refine Kd.C_drew ?_))); (case side2 => exact (Kd.S_reads' HO391.out).2.1); rintro e w14 ⟨v398, rfl, ho0, hb⟩; refine ⟨_, rfl, ?_⟩; have n0_ := Aside0.mk (Kd.S_below (by (with_reducible repeat (first | apply Kd.S_alloc | apply Kd.S_drewN | apply Kd.S_drew)); exact HO391.out) hb); have n1_ := Aside0.mk (Kd.V_below (by (with_reducible repeat (first | apply Kd.V_alloc | apply Kd.V_drewN | apply Kd.V_drew)); exact HO394.out) hb); have n2_ := Aside0.mk (Kd.V_lower (Kd.V_mono (ok' := fun k_ => some k_ ≠ (.slice Ao12 t389.length co12 : Value).ownBlock) ho0 (fun k_ hk_ => (Kd.fresh' (Kd.S_lt (by (with_reducible repeat (first | apply Kd.S_alloc | apply Kd.S_drewN | apply Kd.S_drew)); exact HO391.out)) k_ hk_))) (below_size (by repeat (first | (with_reducible first | exact HB.out | apply below_alloc | apply pw_below_drewN | apply below_drew1) | exact HB.out)))); have n3_ := Aside0.mk (below_step (by repeat (first | (with_reducible first | exact HB.out | apply below_alloc | apply pw_below_drewN | apply below_drew1) | exact HB.out)) hb); clear HO391; clear HO394; clear HB; have HO391 := n0_; have HO394 := n1_; have HO399 := n2_; have HB := n3_; clear n0_ n1_ n2_ n3_; (try clear hb); (try clear hb2); (try clear hk); (try clear hi); (try clear ho0)))
  (try simp only [Act.put, List.setIfInBounds_toArray, List.set_cons_zero, List.set_cons_succ])
  go_cut [50] (fun v50 wc => ∃ (kq : Nat) (x50_8 : Bool), v50 = .bool x50_8 ∧ Aside0 (interlocutorlaw10_RankOrder.j0 kq t389 t392 x50_8 = some r) ∧ Aside0 (kq ≤ k) ∧ Aside0 (Kd.S k36 36 wc w.heap.size (fun _ => True) (.slice Ao12 t389.length co12) t389) ∧ Aside0 (Kd.V k36 36 wc w.heap.size (fun k_ => some k_ ≠ ((.slice Ao12 t389.length co12) : Value).ownBlock) v393 t392) ∧ Aside0 (Below w.heap.size w wc))
  case first =>
   have H := HC9.out
   clear HC9
   by_cases c15 : t395 = true
   · subst c15
     have H1 : (interlocutorlaw10_RankOrder.j0 k t389 t392 true) = some r := by rw [if_pos rfl] at H; exact H
     clear H
     have H := H1
     clear H1
     have H' := Aside0.mk H
     clear H
     go_wp2
     go_meet
     case rel => exact ⟨_, (true), (by first | rfl | (simp; done) | (simp [*]; done)), H', ⟨by first | omega | exact Nat.le_refl _⟩, ⟨by (with_reducible repeat (first | apply Kd.S_alloc | apply Kd.S_drewN | apply Kd.S_drew)); exact HO391.out⟩, ⟨by (with_reducible repeat (first | apply Kd.V_alloc | apply Kd.V_drewN | apply Kd.V_drew)); exact HO394.out⟩, ⟨by repeat (first | (with_reducible first | exact HB.out | apply below_alloc | apply pw_below_drewN | apply below_drew1) | exact HB.out)⟩⟩
   replace c15 := Bool.eq_false_iff.mpr c15
   subst c15
   have H1 : (if (t400 != (decide ((t392.length : Int) > t396))) = true then (interlocutorlaw10_RankOrder.j0 k t389 t392 true) else (if 0 ≤ (mn t396 (t392.length : Int)) then (if (mn t396 (t392.length : Int)) ≤ (t392.length : Int) then ((interlocutorref10_Same.f k t397 (t392.take ((mn t396 (t392.length : Int)) : Int).toNat)).bind fun t406 => (interlocutorlaw10_RankOrder.j0 k t389 t392 (!t406))) else (none)) else (none))) = some r := by rw [if_neg (show ¬ (false = true) by decide)] at H; exact H
   clear H
   have H := H1
   clear H1
   by_cases c16 : (t400 != (decide ((t392.length : Int) > t396))) = true
   · rw [if_pos c16] at H
     have c16b0 : (t400 != (decide ((t392.length : Int) > t396))) = true := c16
     (try (have c16b1 : decide (t400 = (decide ((t392.length : Int) > t396))) = false := by simpa using c16))
     (try (have c16b2 : (t400 == (decide ((t392.length : Int) > t396))) = false := by simpa using c16))
     (try (have c16b3 : ¬ (t400 = (decide ((t392.length : Int) > t396))) := by simpa using c16))
     clear c16
     (first | rw [c16b0] | (simp only [i64_w, i32_w]; rw [c16b0]) | skip)
     have H' := Aside0.mk H
     clear H
     obtain ⟨Ao17, co17, eo17⟩ := Kd.V_slice HO394.out
     subst eo17
     go_wp2
     go_meet
     case rel => exact ⟨_, (true), (by first | rfl | (simp; done) | (simp [*]; done)), H', ⟨by first | omega | exact Nat.le_refl _⟩, ⟨by (with_reducible repeat (first | apply Kd.S_alloc | apply Kd.S_drewN | apply Kd.S_drew)); exact HO391.out⟩, ⟨by (with_reducible repeat (first | apply Kd.V_alloc | apply Kd.V_drewN | apply Kd.V_drew)); exact HO394.out⟩, ⟨by repeat (first | (with_reducible first | exact HB.out | apply below_alloc | apply pw_below_drewN | apply below_drew1) | exact HB.out)⟩⟩
   rw [if_neg c16] at H
   have c16b0 : (t400 != (decide ((t392.length : Int) > t396))) = false := by simpa using c16
   (try (have c16b1 : decide (t400 = (decide ((t392.length : Int) > t396))) = true := by simpa using c16))
   (try (have c16b2 : (t400 == (decide ((t392.length : Int) > t396))) = true := by simpa using c16))
   clear c16
   (first | rw [c16b0] | (simp only [i64_w, i32_w]; rw [c16b0]) | skip)
   obtain ⟨ji18, hji18⟩ : ∃ j_ : Int, (mn t396 (t392.length : Int)) = j_ := ⟨_, rfl⟩
   replace H : (if 0 ≤ (ji18) then (if (ji18) ≤ (t392.length : Int) then ((interlocutorref10_Same.f k t397 (t392.take ((ji18) : Int).toNat)).bind fun t406 => (interlocutorlaw10_RankOrder.j0 k t389 t392 (!t406))) else (none)) else (none)) = some r := by first | (rw [hji18] at H; exact H) | (simp only [hji18] at H ⊢; exact H)
   have hji18_ : (if (t392.length : Int) < t396 then (t392.length : Int) else t396) = ji18 := hji18
   by_cases c19 : 0 ≤ (ji18)
   rotate_left
   · rw [if_neg c19] at H
     exact absurd H (by simp)
   rw [if_pos c19] at H
   have c19b0 := eq_true c19
   have c19b1 : decide (0 ≤ (ji18)) = true := decide_eq_true c19
   clear c19
   by_cases c20 : (ji18) ≤ (t392.length : Int)
   rotate_left
   · rw [if_neg c20] at H
     exact absurd H (by simp)
   rw [if_pos c20] at H
   have c20b0 := eq_true c20
   have c20b1 : decide ((ji18) ≤ (t392.length : Int)) = true := decide_eq_true c20
   clear c20
   obtain ⟨y401, hy401⟩ : ∃ y_ : List (S36), y_ = (t392.take ((ji18) : Int).toNat) := ⟨_, rfl⟩
   replace H : ((interlocutorref10_Same.f k t397 y401).bind fun t406 => (interlocutorlaw10_RankOrder.j0 k t389 t392 (!t406))) = some r := by first | (rw [hy401]; with_reducible exact H) | (have H2_ := (Option.bind_some _ _).symm.trans H; rw [hy401]; with_reducible exact H2_) | (have H2_ := (Option.bind_some _ _).symm.trans H; with_reducible exact H2_) | with_reducible exact H | (rw [hy401]; exact H) | exact H
   have Ny401 := Aside0.mk hy401
   clear hy401
   replace H := Option.bind_eq_some_iff.mp H
   obtain ⟨t406, A210, H⟩ := H
   replace H : (interlocutorlaw10_RankOrder.j0 k t389 t392 (!t406)) = some r := H
   have A21 := Aside0.mk A210
   clear A210
   have H' := Aside0.mk H
   clear H
   obtain ⟨Ao22, co22, eo22⟩ := Kd.V_slice HO394.out
   subst eo22
   have q23 : ((ji18) : Int) ≤ ((t392.length : Int) : Int) := of_decide_eq_true (by first | (with_reducible assumption) | assumption)
   obtain ⟨i023, hi023, _, hsz23, _⟩ := info_parts info36
   have hroom23 : t392.length ≤ co22 := (Kd.V_reads' HO394.out).2.1
   have hC23 : Kd.F k36 _ _ Ao22 t392.length t392 := (Kd.V_at (base := w.heap.size) HO394.out).2.2
   have hcut23 := cut_to (P := Tryd.prog) 28 36 .i64 Tryd.underlying28 hi023 Ao22 t392.length co22 (ji18) (of_decide_eq_true (by first | (with_reducible assumption) | assumption)) q23 hroom23
   have hr23 := Kd.F_take (m := ((ji18) : Int).toNat) hC23 (by omega)
   have hy23 : y401.length = ((ji18) : Int).toNat := (by rw [Ny401.out, List.length_take]; omega)
   rw [← Ny401.out] at hr23
   rw [← hy23] at hcut23
   have HO405 := Aside0.mk (show Kd.V k36 36 _ w.heap.size _ (.slice Ao22 y401.length co22) y401 from Kd.V_mk (by omega) hr23)
   have HC405 := Aside0.mk (show y401.length ≤ co22 from by omega)
   clear hr23 hC23 hroom23 hi023 hsz23
   have KY23 := Aside0.mk hy23
   clear hy23
   replace q23 := eq_true q23
   obtain ⟨Ao24, co24, eo24⟩ := Kd.V_slice HO399.out
   subst eo24
   go_wp2_with (first | (go_at_call 20; (with_reducible refine (interlocutorref10_Same.calls k _ _ t397 _ _ y401 t406 _ ?side1 ?side2 ?side3 ?side4 A21.out).mono ?_); (case side1 => repeat (first | exact (Kd.V_reads' HO399.out).2.2 | (with_reducible refine Kd.C_alloc ?_ _) | (with_reducible refine Kd.C_drewN ?_ _) | (with_reducible refine Kd.C_drew ?_))); (case side2 => exact (Kd.V_reads' HO399.out).2.1); (case side3 => repeat (first | exact (Kd.V_reads' HO405.out).2.2 | (with_reducible refine Kd.C_alloc ?_ _) | (with_reducible refine Kd.C_drewN ?_ _) | (with_reducible refine Kd.C_drew ?_))); (case side4 => exact (Kd.V_reads' HO405.out).2.1); rintro e w25 ⟨rfl, hb⟩; have n0_ := Aside0.mk (Kd.S_below (by (with_reducible repeat (first | apply Kd.S_alloc | apply Kd.S_drewN | apply Kd.S_drew)); exact HO391.out) hb); have n1_ := Aside0.mk (Kd.V_below (by (with_reducible repeat (first | apply Kd.V_alloc | apply Kd.V_drewN | apply Kd.V_drew)); exact HO394.out) hb); have n2_ := Aside0.mk (Kd.V_below (by (with_reducible repeat (first | apply Kd.V_alloc | apply Kd.V_drewN | apply Kd.V_drew)); exact HO399.out) hb); have n3_ := Aside0.mk (Kd.V_below (by (with_reducible repeat (first | apply Kd.V_alloc | apply Kd.V_drewN | apply Kd.V_drew)); exact HO405.out) hb); have n4_ := Aside0.mk (below_step (by repeat (first | (with_reducible first | exact HB.out | apply below_alloc | apply pw_below_drewN | apply below_drew1) | exact HB.out)) hb); clear HO391; clear HO394; clear HO399; clear HO405; clear HB; have HO391 := n0_; have HO394 := n1_; have HO399 := n2_; have HO405 := n3_; have HB := n4_; clear n0_ n1_ n2_ n3_ n4_; (try clear hb); (try clear hb2); (try clear hk); (try clear hi)))
   go_meet
   case rel => exact ⟨_, (!t406), (by first | rfl | (simp; done) | (simp [*]; done)), H', ⟨by first | omega | exact Nat.le_refl _⟩, ⟨by (with_reducible repeat (first | apply Kd.S_alloc | apply Kd.S_drewN | apply Kd.S_drew)); exact HO391.out⟩, ⟨by (with_reducible repeat (first | apply Kd.V_alloc | apply Kd.V_drewN | apply Kd.V_drew)); exact HO394.out⟩, ⟨by repeat (first | (with_reducible first | exact HB.out | apply below_alloc | apply pw_below_drewN | apply below_drew1) | exact HB.out)⟩⟩
  case rest =>
   clear HC9
   try clear c1
   try clear c2
   try clear p2
   try clear q2
   try clear c4
   try clear c5
   try clear c13
   try clear c15
   try clear c16
   try clear c16b0
   try clear c16b1
   try clear c16b2
   try clear c17
   try clear c18
   try clear c19
   try clear c19b0
   try clear c19b1
   try clear c20
   try clear c20b0
   try clear c20b1
   try clear q23
   try clear q23
   obtain ⟨kq, x50_8, rfl, HA, HJ8, HO_5, HO_6, HB⟩ := hcut
   cases kq with
   | zero => exact absurd HA.out (by simp [interlocutorlaw10_RankOrder.j0])
   | succ kj8 =>
    have H := HA.out
    clear HA
    simp only [interlocutorlaw10_RankOrder.j0] at H
    by_cases c26 : x50_8 = true
    · subst c26
      have H1 : (some false) = some r := by rw [if_pos rfl] at H; exact H
      clear H
      have H := H1
      clear H1
      obtain rfl := Option.some.inj H
      go_wp2
      go_ret
      exact ⟨by first | rfl | (simp [errW_none, errW_some] <;> rfl) | (simp [*, errW_none, errW_some] <;> rfl), by repeat (first | (with_reducible first | exact HB.out | apply below_alloc | apply pw_below_drewN | apply below_drew1) | exact HB.out)⟩
    replace c26 := Bool.eq_false_iff.mpr c26
    subst c26
    have H1 : (interlocutorlaw10_RankOrder.l0 kj8 t389 t392 0) = some r := by rw [if_neg (show ¬ (false = true) by decide)] at H; exact H
    clear H
    have H := H1
    clear H1
    have H' := Aside0.mk H
    clear H
    go_wp2
    go_loopg [11] kj8 (fun kq v11 w' => ∃ (x11_2 : Int), v11 = .int .i64 x11_2 ∧ Aside0 (interlocutorlaw10_RankOrder.l0 kq t389 t392 x11_2 = some r) ∧ Aside0 (kq ≤ kj8) ∧ Aside0 (Kd.S k36 36 w' w.heap.size (fun _ => True) (.slice Ao12 t389.length co12) t389) ∧ Aside0 (Kd.V k36 36 w' w.heap.size (fun k_ => some k_ ≠ ((.slice Ao12 t389.length co12) : Value).ownBlock) v393 t392) ∧ Aside0 (Below w.heap.size w w'))
    case atStart => exact ⟨(0), (by first | rfl | (simp; done) | (simp [*]; done)), H', ⟨Nat.le_refl _⟩, ⟨by (with_reducible repeat (first | apply Kd.S_alloc | apply Kd.S_drewN | apply Kd.S_drew)); exact HO_5.out⟩, ⟨by (with_reducible repeat (first | apply Kd.V_alloc | apply Kd.V_drewN | apply Kd.V_drew)); exact HO_6.out⟩, ⟨by repeat (first | (with_reducible first | exact HB.out | apply below_alloc | apply pw_below_drewN | apply below_drew1) | exact HB.out)⟩⟩
    case round =>
     clear H'
     try clear c1
     try clear c2
     try clear p2
     try clear q2
     try clear c4
     try clear c5
     try clear c13
     try clear c15
     try clear c16
     try clear c16b0
     try clear c16b1
     try clear c16b2
     try clear c17
     try clear c18
     try clear c19
     try clear c19b0
     try clear c19b1
     try clear c20
     try clear c20b0
     try clear c20b1
     try clear q23
     try clear c26
     try clear p2
     try clear q2
     try clear q23
     obtain ⟨x11_2, rfl, HA, HK2, HO_5, HO_6, HB⟩ := hrel
     cases gk with
     | zero => exact absurd HA.out (by simp [interlocutorlaw10_RankOrder.l0])
     | succ k2 =>
      have H := HA.out
      clear HA
      simp only [interlocutorlaw10_RankOrder.l0] at H
      by_cases c27 : x11_2 < (t392.length : Int)
      rotate_left
      · rw [if_neg c27] at H
        have c27b0 : decide (x11_2 < (t392.length : Int)) = false := decide_eq_false c27
        clear c27
        obtain rfl := Option.some.inj H
        obtain ⟨Ao72, co72, eo72⟩ := Kd.V_slice HO_6.out
        subst eo72
        go_wp2
        go_ret
        exact ⟨by first | rfl | (simp [errW_none, errW_some] <;> rfl) | (simp [*, errW_none, errW_some] <;> rfl), by repeat (first | (with_reducible first | exact HB.out | apply below_alloc | apply pw_below_drewN | apply below_drew1) | exact HB.out)⟩
      rw [if_pos c27] at H
      have c27b0 : decide (x11_2 < (t392.length : Int)) = true := decide_eq_true c27
      clear c27
      have HC28 := Aside0.mk H
      clear H
      obtain ⟨Ao29, co29, eo29⟩ := Kd.V_slice HO_6.out
      subst eo29
      go_upto_region 12 with (fail)
      go_cut [101] (fun v101 wc => ∃ (kq : Nat) (x101_27 : Bool), v101 = .bool x101_27 ∧ Aside0 (interlocutorlaw10_RankOrder.j2 kq t389 t392 x11_2 x101_27 = some r) ∧ Aside0 (kq ≤ k2) ∧ Aside0 (Kd.S k36 36 wc w.heap.size (fun _ => True) (.slice Ao12 t389.length co12) t389) ∧ Aside0 (Kd.V k36 36 wc w.heap.size (fun k_ => some k_ ≠ ((.slice Ao12 t389.length co12) : Value).ownBlock) (.slice Ao29 t392.length co29) t392) ∧ Aside0 (Below w.heap.size w wc))
      case first =>
       have H := HC28.out
       clear HC28
       by_cases c30 : x11_2 > 0
       rotate_left
       · rw [if_neg c30] at H
         have c30b0 : decide (0 < x11_2) = false := decide_eq_false c30
         clear c30
         (first | rw [c30b0] | (simp only [i64_w, i32_w]; rw [c30b0]) | skip)
         have H' := Aside0.mk H
         clear H
         try go_wp2
         have n0_ := Aside0.mk (Kd.S_drew HO_5.out)
         have n1_ := Aside0.mk (Kd.V_drew HO_6.out)
         have n2_ := Aside0.mk (below_drew1 HB.out)
         clear HO_5
         clear HO_6
         clear HB
         have HO_5 := n0_
         have HO_6 := n1_
         have HB := n2_
         clear n0_ n1_ n2_
         refine start_ (n := 45) (S := fun w' => True) (ds := []) #[N5,N5,N5,N5,N5,N5,N5,N5,N5,N5,N5,N5,N5,N5,N5,N5,N5,N5,N5,N5,N5,N5,N5,N5,N5,N5,N5,N5,N5,N5,N5,N5,N5,N5,N5,N5,N5,N5,N5,N5,N5,N5,N5,N5,N5] (by kernel_rfl) rfl rfl trivial (fun hHeld => ?_); refine with_tabW interlocutorlaw10_RankOrder.tab12 interlocutorlaw10_RankOrder.bits12 (fun HT_ HW_ => ?_)
         generalize wr.drew = w42 at HO_5 HO_6 HB hHeld ⊢
         refine pure_ (i := 0) (N := some 57) (v := ?_) (a' := ?_) #[Y5,N5,N5,N5,N5,N5,N5,N5,N5,N5,N5,N5,N5,N5,N5,N5,N5,N5,N5,N5,N5,N5,N5,N5,N5,N5,N5,N5,N5,N5,N5,N5,N5,N5,N5,N5,N5,N5,N5,N5,N5,N5,N5,N5,N5] rfl rfl (any_of HT_.out (by kernel_rfl)) (fun _ _ _ h => h) (Or.inl ⟨by rfl, ?_⟩) ?_ ?_; rotate_left; (intro w'; go_simp; with_reducible rfl); rotate_left; (simp only [pq5]; rfl)
         refine pure_ (i := 1) (N := some 58) (v := ?_) (a' := ?_) #[Y5,Y5,N5,N5,N5,N5,N5,N5,N5,N5,N5,N5,N5,N5,N5,N5,N5,N5,N5,N5,N5,N5,N5,N5,N5,N5,N5,N5,N5,N5,N5,N5,N5,N5,N5,N5,N5,N5,N5,N5,N5,N5,N5,N5,N5] rfl rfl (any_of HT_.out (by kernel_rfl)) (fun _ _ _ h => h) (Or.inl ⟨by rfl, ?_⟩) ?_ ?_; rotate_left; (intro w'; go_simp; with_reducible rfl); rotate_left; (simp only [pq5]; rfl)
         refine pure_ (i := 2) (N := some 59) (v := ?_) (a' := ?_) #[Y5,Y5,Y5,N5,N5,N5,N5,N5,N5,N5,N5,N5,N5,N5,N5,N5,N5,N5,N5,N5,N5,N5,N5,N5,N5,N5,N5,N5,N5,N5,N5,N5,N5,N5,N5,N5,N5,N5,N5,N5,N5,N5,N5,N5,N5] rfl rfl (any_of HT_.out (by kernel_rfl)) (fun _ _ _ h => h) (Or.inl ⟨by rfl, ?_⟩) ?_ ?_; rotate_left; (intro w'; go_simp; with_reducible rfl); rotate_left; (simp only [pq5]; rfl)
         refine pure_ (i := 3) (N := some 60) (v := undef) (a' := ?_) #[Y5,Y5,Y5,Y5,N5,N5,N5,N5,N5,N5,N5,N5,N5,N5,N5,N5,N5,N5,N5,N5,N5,N5,N5,N5,N5,N5,N5,N5,N5,N5,N5,N5,N5,N5,N5,N5,N5,N5,N5,N5,N5,N5,N5,N5,N5] rfl rfl (any_of HT_.out (by kernel_rfl)) (fun _ _ _ h => h) (Or.inr ⟨by rfl, rfl⟩) ?_ ?_
         rotate_left
         · simp only [pq5]
           rfl
         refine pure_ (i := 4) (N := some 61) (v := undef) (a' := ?_) #[Y5,Y5,Y5,Y5,Y5,N5,N5,N5,N5,N5,N5,N5,N5,N5,N5,N5,N5,N5,N5,N5,N5,N5,N5,N5,N5,N5,N5,N5,N5,N5,N5,N5,N5,N5,N5,N5,N5,N5,N5,N5,N5,N5,N5,N5,N5] rfl rfl (any_of HT_.out (by kernel_rfl)) (fun _ _ _ h => h) (Or.inr ⟨by rfl, rfl⟩) ?_ ?_
         rotate_left
         · simp only [pq5]
           rfl
         refine pure_ (i := 5) (N := some 62) (v := undef) (a' := ?_) #[Y5,Y5,Y5,Y5,Y5,Y5,N5,N5,N5,N5,N5,N5,N5,N5,N5,N5,N5,N5,N5,N5,N5,N5,N5,N5,N5,N5,N5,N5,N5,N5,N5,N5,N5,N5,N5,N5,N5,N5,N5,N5,N5,N5,N5,N5,N5] rfl rfl (any_of HT_.out (by kernel_rfl)) (fun _ _ _ h => h) (Or.inr ⟨by rfl, rfl⟩) ?_ ?_
         rotate_left
         · simp only [pq5]
           rfl
         refine pure_ (i := 6) (N := some 63) (v := undef) (a' := ?_) #[Y5,Y5,Y5,Y5,Y5,Y5,Y5,N5,N5,N5,N5,N5,N5,N5,N5,N5,N5,N5,N5,N5,N5,N5,N5,N5,N5,N5,N5,N5,N5,N5,N5,N5,N5,N5,N5,N5,N5,N5,N5,N5,N5,N5,N5,N5,N5] rfl rfl (any_of HT_.out (by kernel_rfl)) (fun _ _ _ h => h) (Or.inr ⟨by rfl, rfl⟩) ?_ ?_
         rotate_left
         · simp only [pq5]
           rfl
         refine pure_ (i := 7) (N := some 64) (v := undef) (a' := ?_) #[Y5,Y5,Y5,Y5,Y5,Y5,Y5,Y5,N5,N5,N5,N5,N5,N5,N5,N5,N5,N5,N5,N5,N5,N5,N5,N5,N5,N5,N5,N5,N5,N5,N5,N5,N5,N5,N5,N5,N5,N5,N5,N5,N5,N5,N5,N5,N5] rfl rfl (any_of HT_.out (by kernel_rfl)) (fun _ _ _ h => h) (Or.inr ⟨by rfl, rfl⟩) ?_ ?_
         rotate_left
         · simp only [pq5]
           rfl
         refine pure_ (i := 8) (N := some 65) (v := undef) (a' := ?_) #[Y5,Y5,Y5,Y5,Y5,Y5,Y5,Y5,Y5,N5,N5,N5,N5,N5,N5,N5,N5,N5,N5,N5,N5,N5,N5,N5,N5,N5,N5,N5,N5,N5,N5,N5,N5,N5,N5,N5,N5,N5,N5,N5,N5,N5,N5,N5,N5] rfl rfl (any_of HT_.out (by kernel_rfl)) (fun _ _ _ h => h) (Or.inr ⟨by rfl, rfl⟩) ?_ ?_
         rotate_left
         · simp only [pq5]
           rfl
         refine pure_ (i := 9) (N := some 66) (v := undef) (a' := ?_) #[Y5,Y5,Y5,Y5,Y5,Y5,Y5,Y5,Y5,Y5,N5,N5,N5,N5,N5,N5,N5,N5,N5,N5,N5,N5,N5,N5,N5,N5,N5,N5,N5,N5,N5,N5,N5,N5,N5,N5,N5,N5,N5,N5,N5,N5,N5,N5,N5] rfl rfl (any_of HT_.out (by kernel_rfl)) (fun _ _ _ h => h) (Or.inr ⟨by rfl, rfl⟩) ?_ ?_
         rotate_left
         · simp only [pq5]
           rfl
         refine pure_ (i := 10) (N := some 67) (v := undef) (a' := ?_) #[Y5,Y5,Y5,Y5,Y5,Y5,Y5,Y5,Y5,Y5,Y5,N5,N5,N5,N5,N5,N5,N5,N5,N5,N5,N5,N5,N5,N5,N5,N5,N5,N5,N5,N5,N5,N5,N5,N5,N5,N5,N5,N5,N5,N5,N5,N5,N5,N5] rfl rfl (any_of HT_.out (by kernel_rfl)) (fun _ _ _ h => h) (Or.inr ⟨by rfl, rfl⟩) ?_ ?_
         rotate_left
         · simp only [pq5]
           rfl
         refine pure_ (i := 11) (N := some 68) (v := undef) (a' := ?_) #[Y5,Y5,Y5,Y5,Y5,Y5,Y5,Y5,Y5,Y5,Y5,Y5,N5,N5,N5,N5,N5,N5,N5,N5,N5,N5,N5,N5,N5,N5,N5,N5,N5,N5,N5,N5,N5,N5,N5,N5,N5,N5,N5,N5,N5,N5,N5,N5,N5] rfl rfl (any_of HT_.out (by kernel_rfl)) (fun _ _ _ h => h) (Or.inr ⟨by rfl, rfl⟩) ?_ ?_
         rotate_left
         · simp only [pq5]
           rfl
         refine pure_ (i := 12) (N := some 69) (v := undef) (a' := ?_) #[Y5,Y5,Y5,Y5,Y5,Y5,Y5,Y5,Y5,Y5,Y5,Y5,Y5,N5,N5,N5,N5,N5,N5,N5,N5,N5,N5,N5,N5,N5,N5,N5,N5,N5,N5,N5,N5,N5,N5,N5,N5,N5,N5,N5,N5,N5,N5,N5,N5] rfl rfl (any_of HT_.out (by kernel_rfl)) (fun _ _ _ h => h) (Or.inr ⟨by rfl, rfl⟩) ?_ ?_
         rotate_left
         · simp only [pq5]
           rfl
         refine pure_ (i := 13) (N := some 70) (v := undef) (a' := ?_) #[Y5,Y5,Y5,Y5,Y5,Y5,Y5,Y5,Y5,Y5,Y5,Y5,Y5,Y5,N5,N5,N5,N5,N5,N5,N5,N5,N5,N5,N5,N5,N5,N5,N5,N5,N5,N5,N5,N5,N5,N5,N5,N5,N5,N5,N5,N5,N5,N5,N5] rfl rfl (any_of HT_.out (by kernel_rfl)) (fun _ _ _ h => h) (Or.inr ⟨by rfl, rfl⟩) ?_ ?_
         rotate_left
         · simp only [pq5]
           rfl
         refine pure_ (i := 14) (N := some 71) (v := undef) (a' := ?_) #[Y5,Y5,Y5,Y5,Y5,Y5,Y5,Y5,Y5,Y5,Y5,Y5,Y5,Y5,Y5,N5,N5,N5,N5,N5,N5,N5,N5,N5,N5,N5,N5,N5,N5,N5,N5,N5,N5,N5,N5,N5,N5,N5,N5,N5,N5,N5,N5,N5,N5] rfl rfl (any_of HT_.out (by kernel_rfl)) (fun _ _ _ h => h) (Or.inr ⟨by rfl, rfl⟩) ?_ ?_
         rotate_left
         · simp only [pq5]
           rfl
         refine pure_ (i := 15) (N := some 72) (v := undef) (a' := ?_) #[Y5,Y5,Y5,Y5,Y5,Y5,Y5,Y5,Y5,Y5,Y5,Y5,Y5,Y5,Y5,Y5,N5,N5,N5,N5,N5,N5,N5,N5,N5,N5,N5,N5,N5,N5,N5,N5,N5,N5,N5,N5,N5,N5,N5,N5,N5,N5,N5,N5,N5] rfl rfl (any_of HT_.out (by kernel_rfl)) (fun _ _ _ h => h) (Or.inr ⟨by rfl, rfl⟩) ?_ ?_
         rotate_left
         · simp only [pq5]
           rfl
         refine pure_ (i := 16) (N := some 73) (v := undef) (a' := ?_) #[Y5,Y5,Y5,Y5,Y5,Y5,Y5,Y5,Y5,Y5,Y5,Y5,Y5,Y5,Y5,Y5,Y5,N5,N5,N5,N5,N5,N5,N5,N5,N5,N5,N5,N5,N5,N5,N5,N5,N5,N5,N5,N5,N5,N5,N5,N5,N5,N5,N5,N5] rfl rfl (any_of HT_.out (by kernel_rfl)) (fun _ _ _ h => h) (Or.inr ⟨by rfl, rfl⟩) ?_ ?_
         rotate_left
         · simp only [pq5]
           rfl
         refine pure_ (i := 17) (N := some 74) (v := undef) (a' := ?_) #[Y5,Y5,Y5,Y5,Y5,Y5,Y5,Y5,Y5,Y5,Y5,Y5,Y5,Y5,Y5,Y5,Y5,Y5,N5,N5,N5,N5,N5,N5,N5,N5,N5,N5,N5,N5,N5,N5,N5,N5,N5,N5,N5,N5,N5,N5,N5,N5,N5,N5,N5] rfl rfl (any_of HT_.out (by kernel_rfl)) (fun _ _ _ h => h) (Or.inr ⟨by rfl, rfl⟩) ?_ ?_
         rotate_left
         · simp only [pq5]
           rfl
         refine pure_ (i := 18) (N := some 75) (v := undef) (a' := ?_) #[Y5,Y5,Y5,Y5,Y5,Y5,Y5,Y5,Y5,Y5,Y5,Y5,Y5,Y5,Y5,Y5,Y5,Y5,Y5,N5,N5,N5,N5,N5,N5,N5,N5,N5,N5,N5,N5,N5,N5,N5,N5,N5,N5,N5,N5,N5,N5,N5,N5,N5,N5] rfl rfl (any_of HT_.out (by kernel_rfl)) (fun _ _ _ h => h) (Or.inr ⟨by rfl, rfl⟩) ?_ ?_
         rotate_left
         · simp only [pq5]
           rfl
         refine pure_ (i := 19) (N := some 76) (v := undef) (a' := ?_) #[Y5,Y5,Y5,Y5,Y5,Y5,Y5,Y5,Y5,Y5,Y5,Y5,Y5,Y5,Y5,Y5,Y5,Y5,Y5,Y5,N5,N5,N5,N5,N5,N5,N5,N5,N5,N5,N5,N5,N5,N5,N5,N5,N5,N5,N5,N5,N5,N5,N5,N5,N5] rfl rfl (any_of HT_.out (by kernel_rfl)) (fun _ _ _ h => h) (Or.inr ⟨by rfl, rfl⟩) ?_ ?_
         rotate_left
         · simp only [pq5]
           rfl
         refine pure_ (i := 20) (N := some 77) (v := undef) (a' := ?_) #[Y5,Y5,Y5,Y5,Y5,Y5,Y5,Y5,Y5,Y5,Y5,Y5,Y5,Y5,Y5,Y5,Y5,Y5,Y5,Y5,Y5,N5,N5,N5,N5,N5,N5,N5,N5,N5,N5,N5,N5,N5,N5,N5,N5,N5,N5,N5,N5,N5,N5,N5,N5] rfl rfl (any_of HT_.out (by kernel_rfl)) (fun _ _ _ h => h) (Or.inr ⟨by rfl, rfl⟩) ?_ ?_
         rotate_left
         · simp only [pq5]
           rfl
         refine pure_ (i := 21) (N := some 78) (v := undef) (a' := ?_) #[Y5,Y5,Y5,Y5,Y5,Y5,Y5,Y5,Y5,Y5,Y5,Y5,Y5,Y5,Y5,Y5,Y5,Y5,Y5,Y5,Y5,Y5,N5,N5,N5,N5,N5,N5,N5,N5,N5,N5,N5,N5,N5,N5,N5,N5,N5,N5,N5,N5,N5,N5,N5] rfl rfl (any_of HT_.out (by kernel_rfl)) (fun _ _ _ h => h) (Or.inr ⟨by rfl, rfl⟩) ?_ ?_
         rotate_left
         · simp only [pq5]
           rfl
         refine pure_ (i := 22) (N := some 79) (v := undef) (a' := ?_) #[Y5,Y5,Y5,Y5,Y5,Y5,Y5,Y5,Y5,Y5,Y5,Y5,Y5,Y5,Y5,Y5,Y5,Y5,Y5,Y5,Y5,Y5,Y5,N5,N5,N5,N5,N5,N5,N5,N5,N5,N5,N5,N5,N5,N5,N5,N5,N5,N5,N5,N5,N5,N5] rfl rfl (any_of HT_.out (by kernel_rfl)) (fun _ _ _ h => h) (Or.inr ⟨by rfl, rfl⟩) ?_ ?_
         rotate_left
         · simp only [pq5]
           rfl
         refine pure_ (i := 23) (N := some 80) (v := undef) (a' := ?_) #[Y5,Y5,Y5,Y5,Y5,Y5,Y5,Y5,Y5,Y5,Y5,Y5,Y5,Y5,Y5,Y5,Y5,Y5,Y5,Y5,Y5,Y5,Y5,Y5,N5,N5,N5,N5,N5,N5,N5,N5,N5,N5,N5,N5,N5,N5,N5,N5,N5,N5,N5,N5,N5] rfl rfl (any_of HT_.out (by kernel_rfl)) (fun _ _ _ h => h) (Or.inr ⟨by rfl, rfl⟩) ?_ ?_
         rotate_left
         · simp only [pq5]
           rfl
         refine pure_ (i := 24) (N := some 81) (v := undef) (a' := ?_) #[Y5,Y5,Y5,Y5,Y5,Y5,Y5,Y5,Y5,Y5,Y5,Y5,Y5,Y5,Y5,Y5,Y5,Y5,Y5,Y5,Y5,Y5,Y5,Y5,Y5,N5,N5,N5,N5,N5,N5,N5,N5,N5,N5,N5,N5,N5,N5,N5,N5,N5,N5,N5,N5] rfl rfl (any_of HT_.out (by kernel_rfl)) (fun _ _ _ h => h) (Or.inr ⟨by rfl, rfl⟩) ?_ ?_
         rotate_left
         · simp only [pq5]
           rfl
         refine pure_ (i := 25) (N := some 82) (v := undef) (a' := ?_) #[Y5,Y5,Y5,Y5,Y5,Y5,Y5,Y5,Y5,Y5,Y5,Y5,Y5,Y5,Y5,Y5,Y5,Y5,Y5,Y5,Y5,Y5,Y5,Y5,Y5,Y5,N5,N5,N5,N5,N5,N5,N5,N5,N5,N5,N5,N5,N5,N5,N5,N5,N5,N5,N5] rfl rfl (any_of HT_.out (by kernel_rfl)) (fun _ _ _ h => h) (Or.inr ⟨by rfl, rfl⟩) ?_ ?_
         rotate_left
         · simp only [pq5]
           rfl
         refine pure_ (i := 26) (N := some 83) (v := undef) (a' := ?_) #[Y5,Y5,Y5,Y5,Y5,Y5,Y5,Y5,Y5,Y5,Y5,Y5,Y5,Y5,Y5,Y5,Y5,Y5,Y5,Y5,Y5,Y5,Y5,Y5,Y5,Y5,Y5,N5,N5,N5,N5,N5,N5,N5,N5,N5,N5,N5,N5,N5,N5,N5,N5,N5,N5] rfl rfl (any_of HT_.out (by kernel_rfl)) (fun _ _ _ h => h) (Or.inr ⟨by rfl, rfl⟩) ?_ ?_
         rotate_left
         · simp only [pq5]
           rfl
         refine pure_ (i := 27) (N := some 84) (v := undef) (a' := ?_) #[Y5,Y5,Y5,Y5,Y5,Y5,Y5,Y5,Y5,Y5,Y5,Y5,Y5,Y5,Y5,Y5,Y5,Y5,Y5,Y5,Y5,Y5,Y5,Y5,Y5,Y5,Y5,Y5,N5,N5,N5,N5,N5,N5,N5,N5,N5,N5,N5,N5,N5,N5,N5,N5,N5] rfl rfl (any_of HT_.out (by kernel_rfl)) (fun _ _ _ h => h) (Or.inr ⟨by rfl, rfl⟩) ?_ ?_
         rotate_left
         · simp only [pq5]
           rfl
         refine pure_ (i := 28) (N := some 85) (v := undef) (a' := ?_) #[Y5,Y5,Y5,Y5,Y5,Y5,Y5,Y5,Y5,Y5,Y5,Y5,Y5,Y5,Y5,Y5,Y5,Y5,Y5,Y5,Y5,Y5,Y5,Y5,Y5,Y5,Y5,Y5,Y5,N5,N5,N5,N5,N5,N5,N5,N5,N5,N5,N5,N5,N5,N5,N5,N5] rfl rfl (any_of HT_.out (by kernel_rfl)) (fun _ _ _ h => h) (Or.inr ⟨by rfl, rfl⟩) ?_ ?_
         rotate_left
         · simp only [pq5]
           rfl
         refine pure_ (i := 29) (N := some 86) (v := undef) (a' := ?_) #[Y5,Y5,Y5,Y5,Y5,Y5,Y5,Y5,Y5,Y5,Y5,Y5,Y5,Y5,Y5,Y5,Y5,Y5,Y5,Y5,Y5,Y5,Y5,Y5,Y5,Y5,Y5,Y5,Y5,Y5,N5,N5,N5,N5,N5,N5,N5,N5,N5,N5,N5,N5,N5,N5,N5] rfl rfl (any_of HT_.out (by kernel_rfl)) (fun _ _ _ h => h) (Or.inr ⟨by rfl, rfl⟩) ?_ ?_
         rotate_left
         · simp only [pq5]
           rfl
         refine pure_ (i := 30) (N := some 87) (v := undef) (a' := ?_) #[Y5,Y5,Y5,Y5,Y5,Y5,Y5,Y5,Y5,Y5,Y5,Y5,Y5,Y5,Y5,Y5,Y5,Y5,Y5,Y5,Y5,Y5,Y5,Y5,Y5,Y5,Y5,Y5,Y5,Y5,Y5,N5,N5,N5,N5,N5,N5,N5,N5,N5,N5,N5,N5,N5,N5] rfl rfl (any_of HT_.out (by kernel_rfl)) (fun _ _ _ h => h) (Or.inr ⟨by rfl, rfl⟩) ?_ ?_
         rotate_left
         · simp only [pq5]
           rfl
         refine pure_ (i := 31) (N := some 88) (v := undef) (a' := ?_) #[Y5,Y5,Y5,Y5,Y5,Y5,Y5,Y5,Y5,Y5,Y5,Y5,Y5,Y5,Y5,Y5,Y5,Y5,Y5,Y5,Y5,Y5,Y5,Y5,Y5,Y5,Y5,Y5,Y5,Y5,Y5,Y5,N5,N5,N5,N5,N5,N5,N5,N5,N5,N5,N5,N5,N5] rfl rfl (any_of HT_.out (by kernel_rfl)) (fun _ _ _ h => h) (Or.inr ⟨by rfl, rfl⟩) ?_ ?_
         rotate_left
         · simp only [pq5]
           rfl
         refine pure_ (i := 32) (N := some 89) (v := undef) (a' := ?_) #[Y5,Y5,Y5,Y5,Y5,Y5,Y5,Y5,Y5,Y5,Y5,Y5,Y5,Y5,Y5,Y5,Y5,Y5,Y5,Y5,Y5,Y5,Y5,Y5,Y5,Y5,Y5,Y5,Y5,Y5,Y5,Y5,Y5,N5,N5,N5,N5,N5,N5,N5,N5,N5,N5,N5,N5] rfl rfl (any_of HT_.out (by kernel_rfl)) (fun _ _ _ h => h) (Or.inr ⟨by rfl, rfl⟩) ?_ ?_
         rotate_left
         · simp only [pq5]
           rfl
         refine pure_ (i := 33) (N := some 90) (v := undef) (a' := ?_) #[Y5,Y5,Y5,Y5,Y5,Y5,Y5,Y5,Y5,Y5,Y5,Y5,Y5,Y5,Y5,Y5,Y5,Y5,Y5,Y5,Y5,Y5,Y5,Y5,Y5,Y5,Y5,Y5,Y5,Y5,Y5,Y5,Y5,Y5,N5,N5,N5,N5,N5,N5,N5,N5,N5,N5,N5] rfl rfl (any_of HT_.out (by kernel_rfl)) (fun _ _ _ h => h) (Or.inr ⟨by rfl, rfl⟩) ?_ ?_
         rotate_left
         · simp only [pq5]
           rfl
         refine pure_ (i := 34) (N := some 91) (v := undef) (a' := ?_) #[Y5,Y5,Y5,Y5,Y5,Y5,Y5,Y5,Y5,Y5,Y5,Y5,Y5,Y5,Y5,Y5,Y5,Y5,Y5,Y5,Y5,Y5,Y5,Y5,Y5,Y5,Y5,Y5,Y5,Y5,Y5,Y5,Y5,Y5,Y5,N5,N5,N5,N5,N5,N5,N5,N5,N5,N5] rfl rfl (any_of HT_.out (by kernel_rfl)) (fun _ _ _ h => h) (Or.inr ⟨by rfl, rfl⟩) ?_ ?_
         rotate_left
         · simp only [pq5]
           rfl
         refine pure_ (i := 35) (N := some 92) (v := undef) (a' := ?_) #[Y5,Y5,Y5,Y5,Y5,Y5,Y5,Y5,Y5,Y5,Y5,Y5,Y5,Y5,Y5,Y5,Y5,Y5,Y5,Y5,Y5,Y5,Y5,Y5,Y5,Y5,Y5,Y5,Y5,Y5,Y5,Y5,Y5,Y5,Y5,Y5,N5,N5,N5,N5,N5,N5,N5,N5,N5] rfl rfl (any_of HT_.out (by kernel_rfl)) (fun _ _ _ h => h) (Or.inr ⟨by rfl, rfl⟩) ?_ ?_
         rotate_left
         · simp only [pq5]
           rfl
         refine pure_ (i := 36) (N := some 93) (v := undef) (a' := ?_) #[Y5,Y5,Y5,Y5,Y5,Y5,Y5,Y5,Y5,Y5,Y5,Y5,Y5,Y5,Y5,Y5,Y5,Y5,Y5,Y5,Y5,Y5,Y5,Y5,Y5,Y5,Y5,Y5,Y5,Y5,Y5,Y5,Y5,Y5,Y5,Y5,Y5,N5,N5,N5,N5,N5,N5,N5,N5] rfl rfl (any_of HT_.out (by kernel_rfl)) (fun _ _ _ h => h) (Or.inr ⟨by rfl, rfl⟩) ?_ ?_
         rotate_left
         · simp only [pq5]
           rfl
         refine pure_ (i := 37) (N := some 94) (v := undef) (a' := ?_) #[Y5,Y5,Y5,Y5,Y5,Y5,Y5,Y5,Y5,Y5,Y5,Y5,Y5,Y5,Y5,Y5,Y5,Y5,Y5,Y5,Y5,Y5,Y5,Y5,Y5,Y5,Y5,Y5,Y5,Y5,Y5,Y5,Y5,Y5,Y5,Y5,Y5,Y5,N5,N5,N5,N5,N5,N5,N5] rfl rfl (any_of HT_.out (by kernel_rfl)) (fun _ _ _ h => h) (Or.inr ⟨by rfl, rfl⟩) ?_ ?_
         rotate_left
         · simp only [pq5]
           rfl
         refine pure_ (i := 38) (N := some 95) (v := undef) (a' := ?_) #[Y5,Y5,Y5,Y5,Y5,Y5,Y5,Y5,Y5,Y5,Y5,Y5,Y5,Y5,Y5,Y5,Y5,Y5,Y5,Y5,Y5,Y5,Y5,Y5,Y5,Y5,Y5,Y5,Y5,Y5,Y5,Y5,Y5,Y5,Y5,Y5,Y5,Y5,Y5,N5,N5,N5,N5,N5,N5] rfl rfl (any_of HT_.out (by kernel_rfl)) (fun _ _ _ h => h) (Or.inr ⟨by rfl, rfl⟩) ?_ ?_
         rotate_left
         · simp only [pq5]
           rfl
         refine pure_ (i := 39) (N := some 96) (v := undef) (a' := ?_) #[Y5,Y5,Y5,Y5,Y5,Y5,Y5,Y5,Y5,Y5,Y5,Y5,Y5,Y5,Y5,Y5,Y5,Y5,Y5,Y5,Y5,Y5,Y5,Y5,Y5,Y5,Y5,Y5,Y5,Y5,Y5,Y5,Y5,Y5,Y5,Y5,Y5,Y5,Y5,Y5,N5,N5,N5,N5,N5] rfl rfl (any_of HT_.out (by kernel_rfl)) (fun _ _ _ h => h) (Or.inr ⟨by rfl, rfl⟩) ?_ ?_
         rotate_left
         · simp only [pq5]
           rfl
         refine pure_ (i := 40) (N := some 97) (v := undef) (a' := ?_) #[Y5,Y5,Y5,Y5,Y5,Y5,Y5,Y5,Y5,Y5,Y5,Y5,Y5,Y5,Y5,Y5,Y5,Y5,Y5,Y5,Y5,Y5,Y5,Y5,Y5,Y5,Y5,Y5,Y5,Y5,Y5,Y5,Y5,Y5,Y5,Y5,Y5,Y5,Y5,Y5,Y5,N5,N5,N5,N5] rfl rfl (any_of HT_.out (by kernel_rfl)) (fun _ _ _ h => h) (Or.inr ⟨by rfl, rfl⟩) ?_ ?_
         rotate_left
         · simp only [pq5]
           rfl
         refine pure_ (i := 41) (N := some 98) (v := undef) (a' := ?_) #[Y5,Y5,Y5,Y5,Y5,Y5,Y5,Y5,Y5,Y5,Y5,Y5,Y5,Y5,Y5,Y5,Y5,Y5,Y5,Y5,Y5,Y5,Y5,Y5,Y5,Y5,Y5,Y5,Y5,Y5,Y5,Y5,Y5,Y5,Y5,Y5,Y5,Y5,Y5,Y5,Y5,Y5,N5,N5,N5] rfl rfl (any_of HT_.out (by kernel_rfl)) (fun _ _ _ h => h) (Or.inr ⟨by rfl, rfl⟩) ?_ ?_
         rotate_left
         · simp only [pq5]
           rfl
         refine pure_ (i := 42) (N := some 99) (v := undef) (a' := ?_) #[Y5,Y5,Y5,Y5,Y5,Y5,Y5,Y5,Y5,Y5,Y5,Y5,Y5,Y5,Y5,Y5,Y5,Y5,Y5,Y5,Y5,Y5,Y5,Y5,Y5,Y5,Y5,Y5,Y5,Y5,Y5,Y5,Y5,Y5,Y5,Y5,Y5,Y5,Y5,Y5,Y5,Y5,Y5,N5,N5] rfl rfl (any_of HT_.out (by kernel_rfl)) (fun _ _ _ h => h) (Or.inr ⟨by rfl, rfl⟩) ?_ ?_
         rotate_left
         · simp only [pq5]
           rfl
         refine pure_ (i := 43) (N := some 100) (v := undef) (a' := ?_) #[Y5,Y5,Y5,Y5,Y5,Y5,Y5,Y5,Y5,Y5,Y5,Y5,Y5,Y5,Y5,Y5,Y5,Y5,Y5,Y5,Y5,Y5,Y5,Y5,Y5,Y5,Y5,Y5,Y5,Y5,Y5,Y5,Y5,Y5,Y5,Y5,Y5,Y5,Y5,Y5,Y5,Y5,Y5,Y5,N5] rfl rfl (any_of HT_.out (by kernel_rfl)) (fun _ _ _ h => h) (Or.inr ⟨by rfl, rfl⟩) ?_ ?_
         rotate_left
         · simp only [pq5]
           rfl
         refine pure_ (i := 44) (N := some 101) (v := ?_) (a' := ?_) #[Y5,Y5,Y5,Y5,Y5,Y5,Y5,Y5,Y5,Y5,Y5,Y5,Y5,Y5,Y5,Y5,Y5,Y5,Y5,Y5,Y5,Y5,Y5,Y5,Y5,Y5,Y5,Y5,Y5,Y5,Y5,Y5,Y5,Y5,Y5,Y5,Y5,Y5,Y5,Y5,Y5,Y5,Y5,Y5,Y5] rfl rfl (any_of HT_.out (by kernel_rfl)) (fun _ _ _ h => h) (Or.inl ⟨by rfl, ?_⟩) ?_ ?_; rotate_left; (intro w'; go_simp; with_reducible rfl); rotate_left; (simp only [pq5]; rfl)
         refine done_ (done_of HT_.out (by kernel_rfl)) ?_
         try go_wp2
         go_meet
         case rel => exact ⟨_, (false), (by first | rfl | (simp; done) | (simp [*]; done)), H', ⟨by have := HJ8.out; have := HK2.out; first | omega | exact Nat.le_refl _⟩, ⟨by (with_reducible repeat (first | apply Kd.S_alloc | apply Kd.S_drewN | apply Kd.S_drew)); exact HO_5.out⟩, ⟨by (with_reducible repeat (first | apply Kd.V_alloc | apply Kd.V_drewN | apply Kd.V_drew)); exact HO_6.out⟩, ⟨by repeat (first | (with_reducible first | exact HB.out | apply below_alloc | apply pw_below_drewN | apply below_drew1) | exact HB.out)⟩⟩
       rw [if_pos c30] at H
       have c30b0 : decide (0 < x11_2) = true := decide_eq_true c30
       clear c30
       (first | rw [c30b0] | (simp only [i64_w, i32_w]; rw [c30b0]) | skip)
       obtain ⟨ji31, hji31⟩ : ∃ j_ : Int, (wrap64 (x11_2 - 1)) = j_ := ⟨_, rfl⟩
       replace H : (if 0 ≤ (ji31) then (if (ji31) < (t392.length : Int) then (if 0 ≤ x11_2 then (if ((rd_T36 t392 (ji31)).f1) > ((rd_T36 t392 x11_2).f1) then (interlocutorlaw10_RankOrder.j2 k2 t389 t392 x11_2 true) else (if ((rd_T36 t392 (ji31)).f1) = ((rd_T36 t392 x11_2).f1) then ((interlocutorref10_Cmp.f k2 ((rd_T36 t392 (ji31)).f0.f0) ((rd_T36 t392 (ji31)).f0.f1) ((rd_T36 t392 x11_2).f0.f0) ((rd_T36 t392 x11_2).f0.f1)).bind fun t413 => (interlocutorlaw10_RankOrder.j2 k2 t389 t392 x11_2 (decide (t413 ≥ 0)))) else (interlocutorlaw10_RankOrder.j2 k2 t389 t392 x11_2 false))) else (none)) else (none)) else (none)) = some r := by first | (rw [hji31] at H; exact H) | (simp only [hji31] at H ⊢; exact H)
       have hji31w : (IntKind.i64.wrap (x11_2 - 1)) = ji31 := (i64_w _).trans hji31
       by_cases c32 : 0 ≤ (ji31)
       rotate_left
       · rw [if_neg c32] at H
         exact absurd H (by simp)
       rw [if_pos c32] at H
       have c32b0 : decide (0 ≤ (ji31)) = true := decide_eq_true c32
       clear c32
       by_cases c33 : (ji31) < (t392.length : Int)
       rotate_left
       · rw [if_neg c33] at H
         exact absurd H (by simp)
       rw [if_pos c33] at H
       have c33b0 : decide ((ji31) < (t392.length : Int)) = true := decide_eq_true c33
       clear c33
       by_cases c34 : 0 ≤ x11_2
       rotate_left
       · rw [if_neg c34] at H
         exact absurd H (by simp)
       rw [if_pos c34] at H
       have c34b0 : decide (0 ≤ x11_2) = true := decide_eq_true c34
       clear c34
       by_cases c35 : ((rd_T36 t392 (ji31)).f1) > ((rd_T36 t392 x11_2).f1)
       · rw [if_pos c35] at H
         have c35b0 : decide (((rd_T36 t392 x11_2).f1) < ((rd_T36 t392 (ji31)).f1)) = true := decide_eq_true c35
         clear c35
         have H' := Aside0.mk H
         clear H
         try go_wp2
         have n0_ := Aside0.mk (Kd.S_drew HO_5.out)
         have n1_ := Aside0.mk (Kd.V_drew HO_6.out)
         have n2_ := Aside0.mk (below_drew1 HB.out)
         clear HO_5
         clear HO_6
         clear HB
         have HO_5 := n0_
         have HO_6 := n1_
         have HB := n2_
         clear n0_ n1_ n2_
         have p407 : 0 ≤ ((ji31) : Int) := of_decide_eq_true (by first | (with_reducible assumption) | assumption)
         have q407 : (ji31) < (t392.length : Int) := of_decide_eq_true (by first | (with_reducible assumption) | assumption)
         obtain ⟨ad407, A407_1, c407_1, e407, hx407_0, hx407_1, hx407_2, hl407_1, hi407_1⟩ := at_T36 (Kd.V_reads' HO_6.out).2.2 (ji31) p407 q407
         cases e407
         obtain ⟨ce407, hce407, hMe407, hcc407⟩ := Kd.V_get HO_6.out z36 (ji31) p407 (by first | exact q407 | exact of_decide_eq_true (by first | (with_reducible assumption) | assumption) | (have e_ := (Kd.V_reads' HO_6.out).1; omega))
         obtain ⟨ua407_1, uc407_1, rfl, ul407_1, ge407_1⟩ := k36_openF hMe407
         have hv407_1 := hcc407 1 _ rfl
         rw [add_field _ _ 1 (by omega)] at hv407_1
         replace hv407_1 := Option.some.inj (hv407_1.symm.trans hx407_1)
         injection hv407_1 with hva_ hvn_ hvc_
         rw [hva_] at ge407_1
         rw [hvc_] at ul407_1
         have HL407_1 := Aside0.mk (show Kd.V (Kd.int .i64) 3 _ w.heap.size _ _ ((rd_T36 t392 (ji31)).f0.f1) from Kd.V_mk ul407_1 ge407_1)
         clear hva_ hvn_ hvc_ ge407_1 ul407_1
         clear hcc407 hce407
         have HR407_1 := Aside0.mk hi407_1
         have HC407_1 := Aside0.mk hl407_1
         clear hi407_1 hl407_1
         replace p407 := eq_true p407
         replace q407 := eq_true q407
         have p408 : 0 ≤ (x11_2 : Int) := of_decide_eq_true (by first | (with_reducible assumption) | assumption)
         have q408 : x11_2 < (t392.length : Int) := of_decide_eq_true (by first | (with_reducible assumption) | assumption)
         obtain ⟨ad408, A408_1, c408_1, e408, hx408_0, hx408_1, hx408_2, hl408_1, hi408_1⟩ := at_T36 (Kd.V_reads' HO_6.out).2.2 x11_2 p408 q408
         obtain rfl : ad407 = ad408 := (by injection e408)
         obtain ⟨ce408, hce408, hMe408, hcc408⟩ := Kd.V_get HO_6.out z36 x11_2 p408 (by first | exact q408 | exact of_decide_eq_true (by first | (with_reducible assumption) | assumption) | (have e_ := (Kd.V_reads' HO_6.out).1; omega))
         obtain ⟨ua408_1, uc408_1, rfl, ul408_1, ge408_1⟩ := k36_openF hMe408
         have hv408_1 := hcc408 1 _ rfl
         rw [add_field _ _ 1 (by omega)] at hv408_1
         replace hv408_1 := Option.some.inj (hv408_1.symm.trans hx408_1)
         injection hv408_1 with hva_ hvn_ hvc_
         rw [hva_] at ge408_1
         rw [hvc_] at ul408_1
         have HL408_1 := Aside0.mk (show Kd.V (Kd.int .i64) 3 _ w.heap.size _ _ ((rd_T36 t392 x11_2).f0.f1) from Kd.V_mk ul408_1 ge408_1)
         clear hva_ hvn_ hvc_ ge408_1 ul408_1
         clear hcc408 hce408
         have HR408_1 := Aside0.mk hi408_1
         have HC408_1 := Aside0.mk hl408_1
         clear hi408_1 hl408_1
         replace p408 := eq_true p408
         replace q408 := eq_true q408
         refine start_ (n := 45) (S := fun w' => w'.cell? (ad407.add (((ji31)).toNat * 3)) = some (.int .i64 ((rd_T36 t392 (ji31)).f0.f0)) ∧ w'.cell? ⟨(ad407.add (((ji31)).toNat * 3)).block, (ad407.add (((ji31)).toNat * 3)).off + 1, none⟩ = some (.slice A407_1 ((rd_T36 t392 (ji31)).f0.f1).length c407_1) ∧ w'.cell? ⟨(ad407.add (((ji31)).toNat * 3)).block, (ad407.add (((ji31)).toNat * 3)).off + 2, none⟩ = some (.int .i64 ((rd_T36 t392 (ji31)).f1)) ∧ w'.cell? (ad407.add ((x11_2).toNat * 3)) = some (.int .i64 ((rd_T36 t392 x11_2).f0.f0)) ∧ w'.cell? ⟨(ad407.add ((x11_2).toNat * 3)).block, (ad407.add ((x11_2).toNat * 3)).off + 1, none⟩ = some (.slice A408_1 ((rd_T36 t392 x11_2).f0.f1).length c408_1) ∧ w'.cell? ⟨(ad407.add ((x11_2).toNat * 3)).block, (ad407.add ((x11_2).toNat * 3)).off + 2, none⟩ = some (.int .i64 ((rd_T36 t392 x11_2).f1))) (ds := []) #[N5,N5,N5,N5,N5,N5,N5,N5,N5,N5,N5,N5,N5,N5,N5,N5,N5,N5,N5,N5,N5,N5,N5,N5,N5,N5,N5,N5,N5,N5,N5,N5,N5,N5,N5,N5,N5,N5,N5,N5,N5,N5,N5,N5,N5] (by kernel_rfl) rfl rfl ⟨hx407_0, hx407_1, hx407_2, hx408_0, hx408_1, hx408_2⟩ (fun hHeld => ?_); refine with_tabW interlocutorlaw10_RankOrder.tab12 interlocutorlaw10_RankOrder.bits12 (fun HT_ HW_ => ?_)
         generalize wr.drew = w36 at HO_5 HO_6 HB HL407_1 HL408_1 HR407_1 HR408_1 hx407_0 hx407_1 hx407_2 hx408_0 hx408_1 hx408_2 hHeld ⊢
         refine pure_ (i := 0) (N := some 57) (v := ?_) (a' := ?_) #[Y5,N5,N5,N5,N5,N5,N5,N5,N5,N5,N5,N5,N5,N5,N5,N5,N5,N5,N5,N5,N5,N5,N5,N5,N5,N5,N5,N5,N5,N5,N5,N5,N5,N5,N5,N5,N5,N5,N5,N5,N5,N5,N5,N5,N5] rfl rfl (any_of HT_.out (by kernel_rfl)) (fun _ _ _ h => h) (Or.inl ⟨by rfl, ?_⟩) ?_ ?_; rotate_left; (intro w'; go_simp; with_reducible rfl); rotate_left; (simp only [pq5]; rfl)
         refine pure_ (i := 1) (N := some 58) (v := ?_) (a' := ?_) #[Y5,Y5,N5,N5,N5,N5,N5,N5,N5,N5,N5,N5,N5,N5,N5,N5,N5,N5,N5,N5,N5,N5,N5,N5,N5,N5,N5,N5,N5,N5,N5,N5,N5,N5,N5,N5,N5,N5,N5,N5,N5,N5,N5,N5,N5] rfl rfl (any_of HT_.out (by kernel_rfl)) (fun _ _ _ h => h) (Or.inl ⟨by rfl, ?_⟩) ?_ ?_; rotate_left; (intro w'; go_simp; with_reducible rfl); rotate_left; (simp only [pq5]; rfl)
         refine pure_ (i := 2) (N := some 59) (v := ?_) (a' := ?_) #[Y5,Y5,Y5,N5,N5,N5,N5,N5,N5,N5,N5,N5,N5,N5,N5,N5,N5,N5,N5,N5,N5,N5,N5,N5,N5,N5,N5,N5,N5,N5,N5,N5,N5,N5,N5,N5,N5,N5,N5,N5,N5,N5,N5,N5,N5] rfl rfl (any_of HT_.out (by kernel_rfl)) (fun _ _ _ h => h) (Or.inl ⟨by rfl, ?_⟩) ?_ ?_; rotate_left; (intro w'; go_simp; with_reducible rfl); rotate_left; (simp only [pq5]; rfl)
         refine pure_ (i := 3) (N := some 60) (v := ?_) (a' := ?_) #[Y5,Y5,Y5,Y5,N5,N5,N5,N5,N5,N5,N5,N5,N5,N5,N5,N5,N5,N5,N5,N5,N5,N5,N5,N5,N5,N5,N5,N5,N5,N5,N5,N5,N5,N5,N5,N5,N5,N5,N5,N5,N5,N5,N5,N5,N5] rfl rfl (any_of HT_.out (by kernel_rfl)) (fun _ _ _ h => h) (Or.inl ⟨by rfl, ?_⟩) ?_ ?_; rotate_left; (intro w'; go_simp; with_reducible rfl); rotate_left; (simp only [pq5]; rfl)
         refine pure_ (i := 4) (N := some 61) (v := ?_) (a' := ?_) #[Y5,Y5,Y5,Y5,Y5,N5,N5,N5,N5,N5,N5,N5,N5,N5,N5,N5,N5,N5,N5,N5,N5,N5,N5,N5,N5,N5,N5,N5,N5,N5,N5,N5,N5,N5,N5,N5,N5,N5,N5,N5,N5,N5,N5,N5,N5] rfl rfl (any_of HT_.out (by kernel_rfl)) (fun _ _ _ h => h) (Or.inl ⟨by rfl, ?_⟩) ?_ ?_; rotate_left; (intro w'; go_simp; with_reducible rfl); rotate_left; (simp only [pq5]; rfl)
         refine pure_ (i := 5) (N := some 62) (v := ?_) (a' := ?_) #[Y5,Y5,Y5,Y5,Y5,Y5,N5,N5,N5,N5,N5,N5,N5,N5,N5,N5,N5,N5,N5,N5,N5,N5,N5,N5,N5,N5,N5,N5,N5,N5,N5,N5,N5,N5,N5,N5,N5,N5,N5,N5,N5,N5,N5,N5,N5] rfl rfl (any_of HT_.out (by kernel_rfl)) (fun _ _ _ h => h) (Or.inl ⟨by rfl, ?_⟩) ?_ ?_; rotate_left; (intro w'; go_simp; with_reducible rfl); rotate_left; (simp only [pq5]; rfl)
         refine pure_ (i := 6) (N := some 63) (v := ?_) (a' := ?_) #[Y5,Y5,Y5,Y5,Y5,Y5,Y5,N5,N5,N5,N5,N5,N5,N5,N5,N5,N5,N5,N5,N5,N5,N5,N5,N5,N5,N5,N5,N5,N5,N5,N5,N5,N5,N5,N5,N5,N5,N5,N5,N5,N5,N5,N5,N5,N5] rfl rfl (any_of HT_.out (by kernel_rfl)) (fun _ _ _ h => h) (Or.inl ⟨by rfl, ?_⟩) ?_ ?_; rotate_left; (intro w'; go_simp; with_reducible rfl); rotate_left; (simp only [pq5]; rfl)
         refine pure_ (i := 7) (N := some 64) (v := ?_) (a' := ?_) #[Y5,Y5,Y5,Y5,Y5,Y5,Y5,Y5,N5,N5,N5,N5,N5,N5,N5,N5,N5,N5,N5,N5,N5,N5,N5,N5,N5,N5,N5,N5,N5,N5,N5,N5,N5,N5,N5,N5,N5,N5,N5,N5,N5,N5,N5,N5,N5] rfl rfl (any_of HT_.out (by kernel_rfl)) (fun _ _ _ h => h) (Or.inl ⟨by rfl, ?_⟩) ?_ ?_; rotate_left; (intro w'; go_simp; with_reducible rfl); rotate_left; (simp only [pq5]; rfl)
         refine pure_ (i := 9) (N := some 66) (v := ?_) (a' := ?_) #[Y5,Y5,Y5,Y5,Y5,Y5,Y5,Y5,N5,Y5,N5,N5,N5,N5,N5,N5,N5,N5,N5,N5,N5,N5,N5,N5,N5,N5,N5,N5,N5,N5,N5,N5,N5,N5,N5,N5,N5,N5,N5,N5,N5,N5,N5,N5,N5] rfl rfl (any_of HT_.out (by kernel_rfl)) (fun _ _ _ h => h) (Or.inl ⟨by rfl, ?_⟩) ?_ ?_; rotate_left; (intro w'; go_simp; with_reducible rfl); rotate_left; (simp only [pq5]; rfl)
         refine pure_ (i := 10) (N := some 67) (v := ?_) (a' := ?_) #[Y5,Y5,Y5,Y5,Y5,Y5,Y5,Y5,N5,Y5,Y5,N5,N5,N5,N5,N5,N5,N5,N5,N5,N5,N5,N5,N5,N5,N5,N5,N5,N5,N5,N5,N5,N5,N5,N5,N5,N5,N5,N5,N5,N5,N5,N5,N5,N5] rfl rfl (any_of HT_.out (by kernel_rfl)) (fun _ _ _ h => h) (Or.inl ⟨by rfl, ?_⟩) ?_ ?_; rotate_left; (intro w'; go_simp; with_reducible rfl); rotate_left; (simp only [pq5]; rfl)
         refine pure_ (i := 11) (N := some 68) (v := ?_) (a' := ?_) #[Y5,Y5,Y5,Y5,Y5,Y5,Y5,Y5,N5,Y5,Y5,Y5,N5,N5,N5,N5,N5,N5,N5,N5,N5,N5,N5,N5,N5,N5,N5,N5,N5,N5,N5,N5,N5,N5,N5,N5,N5,N5,N5,N5,N5,N5,N5,N5,N5] rfl rfl (any_of HT_.out (by kernel_rfl)) (fun _ _ _ h => h) (Or.inl ⟨by rfl, ?_⟩) ?_ ?_; rotate_left; (intro w'; go_simp; with_reducible rfl); rotate_left; (simp only [pq5]; rfl)
         refine pure_ (i := 12) (N := some 69) (v := ?_) (a' := ?_) #[Y5,Y5,Y5,Y5,Y5,Y5,Y5,Y5,N5,Y5,Y5,Y5,Y5,N5,N5,N5,N5,N5,N5,N5,N5,N5,N5,N5,N5,N5,N5,N5,N5,N5,N5,N5,N5,N5,N5,N5,N5,N5,N5,N5,N5,N5,N5,N5,N5] rfl rfl (any_of HT_.out (by kernel_rfl)) (fun _ _ _ h => h) (Or.inl ⟨by rfl, ?_⟩) ?_ ?_; rotate_left; (intro w'; go_simp; with_reducible rfl); rotate_left; (simp only [pq5]; rfl)
         refine take_ (i := 8) (N := some 65) (v := ?_) (a' := ?_) #[Y5,Y5,Y5,Y5,Y5,Y5,Y5,Y5,Y5,Y5,Y5,Y5,Y5,N5,N5,N5,N5,N5,N5,N5,N5,N5,N5,N5,N5,N5,N5,N5,N5,N5,N5,N5,N5,N5,N5,N5,N5,N5,N5,N5,N5,N5,N5,N5,N5] rfl rfl (take_ofW HT_.out HW_.out (by kernel_rfl)) (fun _ _ _ h => h) (Or.inl ⟨by rfl, ?_⟩) hHeld ?_ ?_
         rotate_left
         · rintro w' ⟨s0, s1, s2, s3, s4, s5⟩
           go_simp
           with_reducible rfl
         rotate_left
         · simp only [pq5]
           rfl
         refine take_ (i := 13) (N := some 70) (v := ?_) (a' := ?_) #[Y5,Y5,Y5,Y5,Y5,Y5,Y5,Y5,Y5,Y5,Y5,Y5,Y5,Y5,N5,N5,N5,N5,N5,N5,N5,N5,N5,N5,N5,N5,N5,N5,N5,N5,N5,N5,N5,N5,N5,N5,N5,N5,N5,N5,N5,N5,N5,N5,N5] rfl rfl (take_ofW HT_.out HW_.out (by kernel_rfl)) (fun _ _ _ h => h) (Or.inl ⟨by rfl, ?_⟩) hHeld ?_ ?_
         rotate_left
         · rintro w' ⟨s0, s1, s2, s3, s4, s5⟩
           go_simp
           with_reducible rfl
         rotate_left
         · simp only [pq5]
           rfl
         refine pure_ (i := 14) (N := some 71) (v := ?_) (a' := ?_) #[Y5,Y5,Y5,Y5,Y5,Y5,Y5,Y5,Y5,Y5,Y5,Y5,Y5,Y5,Y5,N5,N5,N5,N5,N5,N5,N5,N5,N5,N5,N5,N5,N5,N5,N5,N5,N5,N5,N5,N5,N5,N5,N5,N5,N5,N5,N5,N5,N5,N5] rfl rfl (any_of HT_.out (by kernel_rfl)) (fun _ _ _ h => h) (Or.inl ⟨by rfl, ?_⟩) ?_ ?_; rotate_left; (intro w'; go_simp; with_reducible rfl); rotate_left; (simp only [pq5]; rfl)
         refine pure_ (i := 15) (N := some 72) (v := ?_) (a' := ?_) #[Y5,Y5,Y5,Y5,Y5,Y5,Y5,Y5,Y5,Y5,Y5,Y5,Y5,Y5,Y5,Y5,N5,N5,N5,N5,N5,N5,N5,N5,N5,N5,N5,N5,N5,N5,N5,N5,N5,N5,N5,N5,N5,N5,N5,N5,N5,N5,N5,N5,N5] rfl rfl (any_of HT_.out (by kernel_rfl)) (fun _ _ _ h => h) (Or.inl ⟨by rfl, ?_⟩) ?_ ?_; rotate_left; (intro w'; go_simp; with_reducible rfl); rotate_left; (simp only [pq5]; rfl)
         refine pure_ (i := 16) (N := some 73) (v := undef) (a' := ?_) #[Y5,Y5,Y5,Y5,Y5,Y5,Y5,Y5,Y5,Y5,Y5,Y5,Y5,Y5,Y5,Y5,Y5,N5,N5,N5,N5,N5,N5,N5,N5,N5,N5,N5,N5,N5,N5,N5,N5,N5,N5,N5,N5,N5,N5,N5,N5,N5,N5,N5,N5] rfl rfl (any_of HT_.out (by kernel_rfl)) (fun _ _ _ h => h) (Or.inr ⟨by rfl, rfl⟩) ?_ ?_
         rotate_left
         · simp only [pq5]
           rfl
         refine pure_ (i := 17) (N := some 74) (v := undef) (a' := ?_) #[Y5,Y5,Y5,Y5,Y5,Y5,Y5,Y5,Y5,Y5,Y5,Y5,Y5,Y5,Y5,Y5,Y5,Y5,N5,N5,N5,N5,N5,N5,N5,N5,N5,N5,N5,N5,N5,N5,N5,N5,N5,N5,N5,N5,N5,N5,N5,N5,N5,N5,N5] rfl rfl (any_of HT_.out (by kernel_rfl)) (fun _ _ _ h => h) (Or.inr ⟨by rfl, rfl⟩) ?_ ?_
         rotate_left
         · simp only [pq5]
           rfl
         refine pure_ (i := 18) (N := some 75) (v := undef) (a' := ?_) #[Y5,Y5,Y5,Y5,Y5,Y5,Y5,Y5,Y5,Y5,Y5,Y5,Y5,Y5,Y5,Y5,Y5,Y5,Y5,N5,N5,N5,N5,N5,N5,N5,N5,N5,N5,N5,N5,N5,N5,N5,N5,N5,N5,N5,N5,N5,N5,N5,N5,N5,N5] rfl rfl (any_of HT_.out (by kernel_rfl)) (fun _ _ _ h => h) (Or.inr ⟨by rfl, rfl⟩) ?_ ?_
         rotate_left
         · simp only [pq5]
           rfl
         refine pure_ (i := 19) (N := some 76) (v := undef) (a' := ?_) #[Y5,Y5,Y5,Y5,Y5,Y5,Y5,Y5,Y5,Y5,Y5,Y5,Y5,Y5,Y5,Y5,Y5,Y5,Y5,Y5,N5,N5,N5,N5,N5,N5,N5,N5,N5,N5,N5,N5,N5,N5,N5,N5,N5,N5,N5,N5,N5,N5,N5,N5,N5] rfl rfl (any_of HT_.out (by kernel_rfl)) (fun _ _ _ h => h) (Or.inr ⟨by rfl, rfl⟩) ?_ ?_
         rotate_left
         · simp only [pq5]
           rfl
         refine pure_ (i := 20) (N := some 77) (v := undef) (a' := ?_) #[Y5,Y5,Y5,Y5,Y5,Y5,Y5,Y5,Y5,Y5,Y5,Y5,Y5,Y5,Y5,Y5,Y5,Y5,Y5,Y5,Y5,N5,N5,N5,N5,N5,N5,N5,N5,N5,N5,N5,N5,N5,N5,N5,N5,N5,N5,N5,N5,N5,N5,N5,N5] rfl rfl (any_of HT_.out (by kernel_rfl)) (fun _ _ _ h => h) (Or.inr ⟨by rfl, rfl⟩) ?_ ?_
         rotate_left
         · simp only [pq5]
           rfl
         refine pure_ (i := 21) (N := some 78) (v := undef) (a' := ?_) #[Y5,Y5,Y5,Y5,Y5,Y5,Y5,Y5,Y5,Y5,Y5,Y5,Y5,Y5,Y5,Y5,Y5,Y5,Y5,Y5,Y5,Y5,N5,N5,N5,N5,N5,N5,N5,N5,N5,N5,N5,N5,N5,N5,N5,N5,N5,N5,N5,N5,N5,N5,N5] rfl rfl (any_of HT_.out (by kernel_rfl)) (fun _ _ _ h => h) (Or.inr ⟨by rfl, rfl⟩) ?_ ?_
         rotate_left
         · simp only [pq5]
           rfl
         refine pure_ (i := 22) (N := some 79) (v := undef) (a' := ?_) #[Y5,Y5,Y5,Y5,Y5,Y5,Y5,Y5,Y5,Y5,Y5,Y5,Y5,Y5,Y5,Y5,Y5,Y5,Y5,Y5,Y5,Y5,Y5,N5,N5,N5,N5,N5,N5,N5,N5,N5,N5,N5,N5,N5,N5,N5,N5,N5,N5,N5,N5,N5,N5] rfl rfl (any_of HT_.out (by kernel_rfl)) (fun _ _ _ h => h) (Or.inr ⟨by rfl, rfl⟩) ?_ ?_
         rotate_left
         · simp only [pq5]
           rfl
         refine pure_ (i := 23) (N := some 80) (v := undef) (a' := ?_) #[Y5,Y5,Y5,Y5,Y5,Y5,Y5,Y5,Y5,Y5,Y5,Y5,Y5,Y5,Y5,Y5,Y5,Y5,Y5,Y5,Y5,Y5,Y5,Y5,N5,N5,N5,N5,N5,N5,N5,N5,N5,N5,N5,N5,N5,N5,N5,N5,N5,N5,N5,N5,N5] rfl rfl (any_of HT_.out (by kernel_rfl)) (fun _ _ _ h => h) (Or.inr ⟨by rfl, rfl⟩) ?_ ?_
         rotate_left
         · simp only [pq5]
           rfl
         refine pure_ (i := 24) (N := some 81) (v := undef) (a' := ?_) #[Y5,Y5,Y5,Y5,Y5,Y5,Y5,Y5,Y5,Y5,Y5,Y5,Y5,Y5,Y5,Y5,Y5,Y5,Y5,Y5,Y5,Y5,Y5,Y5,Y5,N5,N5,N5,N5,N5,N5,N5,N5,N5,N5,N5,N5,N5,N5,N5,N5,N5,N5,N5,N5] rfl rfl (any_of HT_.out (by kernel_rfl)) (fun _ _ _ h => h) (Or.inr ⟨by rfl, rfl⟩) ?_ ?_
         rotate_left
         · simp only [pq5]
           rfl
         refine pure_ (i := 25) (N := some 82) (v := undef) (a' := ?_) #[Y5,Y5,Y5,Y5,Y5,Y5,Y5,Y5,Y5,Y5,Y5,Y5,Y5,Y5,Y5,Y5,Y5,Y5,Y5,Y5,Y5,Y5,Y5,Y5,Y5,Y5,N5,N5,N5,N5,N5,N5,N5,N5,N5,N5,N5,N5,N5,N5,N5,N5,N5,N5,N5] rfl rfl (any_of HT_.out (by kernel_rfl)) (fun _ _ _ h => h) (Or.inr ⟨by rfl, rfl⟩) ?_ ?_
         rotate_left
         · simp only [pq5]
           rfl
         refine pure_ (i := 26) (N := some 83) (v := undef) (a' := ?_) #[Y5,Y5,Y5,Y5,Y5,Y5,Y5,Y5,Y5,Y5,Y5,Y5,Y5,Y5,Y5,Y5,Y5,Y5,Y5,Y5,Y5,Y5,Y5,Y5,Y5,Y5,Y5,N5,N5,N5,N5,N5,N5,N5,N5,N5,N5,N5,N5,N5,N5,N5,N5,N5,N5] rfl rfl (any_of HT_.out (by kernel_rfl)) (fun _ _ _ h => h) (Or.inr ⟨by rfl, rfl⟩) ?_ ?_
         rotate_left
         · simp only [pq5]
           rfl
         refine pure_ (i := 27) (N := some 84) (v := undef) (a' := ?_) #[Y5,Y5,Y5,Y5,Y5,Y5,Y5,Y5,Y5,Y5,Y5,Y5,Y5,Y5,Y5,Y5,Y5,Y5,Y5,Y5,Y5,Y5,Y5,Y5,Y5,Y5,Y5,Y5,N5,N5,N5,N5,N5,N5,N5,N5,N5,N5,N5,N5,N5,N5,N5,N5,N5] rfl rfl (any_of HT_.out (by kernel_rfl)) (fun _ _ _ h => h) (Or.inr ⟨by rfl, rfl⟩) ?_ ?_
         rotate_left
         · simp only [pq5]
           rfl
         refine pure_ (i := 28) (N := some 85) (v := undef) (a' := ?_) #[Y5,Y5,Y5,Y5,Y5,Y5,Y5,Y5,Y5,Y5,Y5,Y5,Y5,Y5,Y5,Y5,Y5,Y5,Y5,Y5,Y5,Y5,Y5,Y5,Y5,Y5,Y5,Y5,Y5,N5,N5,N5,N5,N5,N5,N5,N5,N5,N5,N5,N5,N5,N5,N5,N5] rfl rfl (any_of HT_.out (by kernel_rfl)) (fun _ _ _ h => h) (Or.inr ⟨by rfl, rfl⟩) ?_ ?_
         rotate_left
         · simp only [pq5]
           rfl
         refine pure_ (i := 29) (N := some 86) (v := undef) (a' := ?_) #[Y5,Y5,Y5,Y5,Y5,Y5,Y5,Y5,Y5,Y5,Y5,Y5,Y5,Y5,Y5,Y5,Y5,Y5,Y5,Y5,Y5,Y5,Y5,Y5,Y5,Y5,Y5,Y5,Y5,Y5,N5,N5,N5,N5,N5,N5,N5,N5,N5,N5,N5,N5,N5,N5,N5] rfl rfl (any_of HT_.out (by kernel_rfl)) (fun _ _ _ h => h) (Or.inr ⟨by rfl, rfl⟩) ?_ ?_
         rotate_left
         · simp only [pq5]
           rfl
         refine pure_ (i := 30) (N := some 87) (v := undef) (a' := ?_) #[Y5,Y5,Y5,Y5,Y5,Y5,Y5,Y5,Y5,Y5,Y5,Y5,Y5,Y5,Y5,Y5,Y5,Y5,Y5,Y5,Y5,Y5,Y5,Y5,Y5,Y5,Y5,Y5,Y5,Y5,Y5,N5,N5,N5,N5,N5,N5,N5,N5,N5,N5,N5,N5,N5,N5] rfl rfl (any_of HT_.out (by kernel_rfl)) (fun _ _ _ h => h) (Or.inr ⟨by rfl, rfl⟩) ?_ ?_
         rotate_left
         · simp only [pq5]
           rfl
         refine pure_ (i := 31) (N := some 88) (v := undef) (a' := ?_) #[Y5,Y5,Y5,Y5,Y5,Y5,Y5,Y5,Y5,Y5,Y5,Y5,Y5,Y5,Y5,Y5,Y5,Y5,Y5,Y5,Y5,Y5,Y5,Y5,Y5,Y5,Y5,Y5,Y5,Y5,Y5,Y5,N5,N5,N5,N5,N5,N5,N5,N5,N5,N5,N5,N5,N5] rfl rfl (any_of HT_.out (by kernel_rfl)) (fun _ _ _ h => h) (Or.inr ⟨by rfl, rfl⟩) ?_ ?_
         rotate_left
         · simp only [pq5]
           rfl
         refine pure_ (i := 32) (N := some 89) (v := undef) (a' := ?_) #[Y5,Y5,Y5,Y5,Y5,Y5,Y5,Y5,Y5,Y5,Y5,Y5,Y5,Y5,Y5,Y5,Y5,Y5,Y5,Y5,Y5,Y5,Y5,Y5,Y5,Y5,Y5,Y5,Y5,Y5,Y5,Y5,Y5,N5,N5,N5,N5,N5,N5,N5,N5,N5,N5,N5,N5] rfl rfl (any_of HT_.out (by kernel_rfl)) (fun _ _ _ h => h) (Or.inr ⟨by rfl, rfl⟩) ?_ ?_
         rotate_left
         · simp only [pq5]
           rfl
         refine pure_ (i := 33) (N := some 90) (v := undef) (a' := ?_) #[Y5,Y5,Y5,Y5,Y5,Y5,Y5,Y5,Y5,Y5,Y5,Y5,Y5,Y5,Y5,Y5,Y5,Y5,Y5,Y5,Y5,Y5,Y5,Y5,Y5,Y5,Y5,Y5,Y5,Y5,Y5,Y5,Y5,Y5,N5,N5,N5,N5,N5,N5,N5,N5,N5,N5,N5] rfl rfl (any_of HT_.out (by kernel_rfl)) (fun _ _ _ h => h) (Or.inr ⟨by rfl, rfl⟩) ?_ ?_
         rotate_left
         · simp only [pq5]
           rfl
         refine pure_ (i := 34) (N := some 91) (v := undef) (a' := ?_) #[Y5,Y5,Y5,Y5,Y5,Y5,Y5,Y5,Y5,Y5,Y5,Y5,Y5,Y5,Y5,Y5,Y5,Y5,Y5,Y5,Y5,Y5,Y5,Y5,Y5,Y5,Y5,Y5,Y5,Y5,Y5,Y5,Y5,Y5,Y5,N5,N5,N5,N5,N5,N5,N5,N5,N5,N5] rfl rfl (any_of HT_.out (by kernel_rfl)) (fun _ _ _ h => h) (Or.inr ⟨by rfl, rfl⟩) ?_ ?_
         rotate_left
         · simp only [pq5]
           rfl
         refine pure_ (i := 35) (N := some 92) (v := undef) (a' := ?_) #[Y5,Y5,Y5,Y5,Y5,Y5,Y5,Y5,Y5,Y5,Y5,Y5,Y5,Y5,Y5,Y5,Y5,Y5,Y5,Y5,Y5,Y5,Y5,Y5,Y5,Y5,Y5,Y5,Y5,Y5,Y5,Y5,Y5,Y5,Y5,Y5,N5,N5,N5,N5,N5,N5,N5,N5,N5] rfl rfl (any_of HT_.out (by kernel_rfl)) (fun _ _ _ h => h) (Or.inr ⟨by rfl, rfl⟩) ?_ ?_
         rotate_left
         · simp only [pq5]
           rfl
         refine pure_ (i := 36) (N := some 93) (v := undef) (a' := ?_) #[Y5,Y5,Y5,Y5,Y5,Y5,Y5,Y5,Y5,Y5,Y5,Y5,Y5,Y5,Y5,Y5,Y5,Y5,Y5,Y5,Y5,Y5,Y5,Y5,Y5,Y5,Y5,Y5,Y5,Y5,Y5,Y5,Y5,Y5,Y5,Y5,Y5,N5,N5,N5,N5,N5,N5,N5,N5] rfl rfl (any_of HT_.out (by kernel_rfl)) (fun _ _ _ h => h) (Or.inr ⟨by rfl, rfl⟩) ?_ ?_
         rotate_left
         · simp only [pq5]
           rfl
         refine pure_ (i := 37) (N := some 94) (v := undef) (a' := ?_) #[Y5,Y5,Y5,Y5,Y5,Y5,Y5,Y5,Y5,Y5,Y5,Y5,Y5,Y5,Y5,Y5,Y5,Y5,Y5,Y5,Y5,Y5,Y5,Y5,Y5,Y5,Y5,Y5,Y5,Y5,Y5,Y5,Y5,Y5,Y5,Y5,Y5,Y5,N5,N5,N5,N5,N5,N5,N5] rfl rfl (any_of HT_.out (by kernel_rfl)) (fun _ _ _ h => h) (Or.inr ⟨by rfl, rfl⟩) ?_ ?_
         rotate_left
         · simp only [pq5]
           rfl
         refine pure_ (i := 38) (N := some 95) (v := undef) (a' := ?_) #[Y5,Y5,Y5,Y5,Y5,Y5,Y5,Y5,Y5,Y5,Y5,Y5,Y5,Y5,Y5,Y5,Y5,Y5,Y5,Y5,Y5,Y5,Y5,Y5,Y5,Y5,Y5,Y5,Y5,Y5,Y5,Y5,Y5,Y5,Y5,Y5,Y5,Y5,Y5,N5,N5,N5,N5,N5,N5] rfl rfl (any_of HT_.out (by kernel_rfl)) (fun _ _ _ h => h) (Or.inr ⟨by rfl, rfl⟩) ?_ ?_
         rotate_left
         · simp only [pq5]
           rfl
         refine pure_ (i := 39) (N := some 96) (v := undef) (a' := ?_) #[Y5,Y5,Y5,Y5,Y5,Y5,Y5,Y5,Y5,Y5,Y5,Y5,Y5,Y5,Y5,Y5,Y5,Y5,Y5,Y5,Y5,Y5,Y5,Y5,Y5,Y5,Y5,Y5,Y5,Y5,Y5,Y5,Y5,Y5,Y5,Y5,Y5,Y5,Y5,Y5,N5,N5,N5,N5,N5] rfl rfl (any_of HT_.out (by kernel_rfl)) (fun _ _ _ h => h) (Or.inr ⟨by rfl, rfl⟩) ?_ ?_
         rotate_left
         · simp only [pq5]
           rfl
         refine pure_ (i := 40) (N := some 97) (v := undef) (a' := ?_) #[Y5,Y5,Y5,Y5,Y5,Y5,Y5,Y5,Y5,Y5,Y5,Y5,Y5,Y5,Y5,Y5,Y5,Y5,Y5,Y5,Y5,Y5,Y5,Y5,Y5,Y5,Y5,Y5,Y5,Y5,Y5,Y5,Y5,Y5,Y5,Y5,Y5,Y5,Y5,Y5,Y5,N5,N5,N5,N5] rfl rfl (any_of HT_.out (by kernel_rfl)) (fun _ _ _ h => h) (Or.inr ⟨by rfl, rfl⟩) ?_ ?_
         rotate_left
         · simp only [pq5]
           rfl
         refine pure_ (i := 41) (N := some 98) (v := undef) (a' := ?_) #[Y5,Y5,Y5,Y5,Y5,Y5,Y5,Y5,Y5,Y5,Y5,Y5,Y5,Y5,Y5,Y5,Y5,Y5,Y5,Y5,Y5,Y5,Y5,Y5,Y5,Y5,Y5,Y5,Y5,Y5,Y5,Y5,Y5,Y5,Y5,Y5,Y5,Y5,Y5,Y5,Y5,Y5,N5,N5,N5] rfl rfl (any_of HT_.out (by kernel_rfl)) (fun _ _ _ h => h) (Or.inr ⟨by rfl, rfl⟩) ?_ ?_
         rotate_left
         · simp only [pq5]
           rfl
         refine pure_ (i := 42) (N := some 99) (v := undef) (a' := ?_) #[Y5,Y5,Y5,Y5,Y5,Y5,Y5,Y5,Y5,Y5,Y5,Y5,Y5,Y5,Y5,Y5,Y5,Y5,Y5,Y5,Y5,Y5,Y5,Y5,Y5,Y5,Y5,Y5,Y5,Y5,Y5,Y5,Y5,Y5,Y5,Y5,Y5,Y5,Y5,Y5,Y5,Y5,Y5,N5,N5] rfl rfl (any_of HT_.out (by kernel_rfl)) (fun _ _ _ h => h) (Or.inr ⟨by rfl, rfl⟩) ?_ ?_
         rotate_left
         · simp only [pq5]
           rfl
         refine pure_ (i := 43) (N := some 100) (v := ?_) (a' := ?_) #[Y5,Y5,Y5,Y5,Y5,Y5,Y5,Y5,Y5,Y5,Y5,Y5,Y5,Y5,Y5,Y5,Y5,Y5,Y5,Y5,Y5,Y5,Y5,Y5,Y5,Y5,Y5,Y5,Y5,Y5,Y5,Y5,Y5,Y5,Y5,Y5,Y5,Y5,Y5,Y5,Y5,Y5,Y5,Y5,N5] rfl rfl (any_of HT_.out (by kernel_rfl)) (fun _ _ _ h => h) (Or.inl ⟨by rfl, ?_⟩) ?_ ?_; rotate_left; (intro w'; go_simp; with_reducible rfl); rotate_left; (simp only [pq5]; rfl)
         refine pure_ (i := 44) (N := some 101) (v := ?_) (a' := ?_) #[Y5,Y5,Y5,Y5,Y5,Y5,Y5,Y5,Y5,Y5,Y5,Y5,Y5,Y5,Y5,Y5,Y5,Y5,Y5,Y5,Y5,Y5,Y5,Y5,Y5,Y5,Y5,Y5,Y5,Y5,Y5,Y5,Y5,Y5,Y5,Y5,Y5,Y5,Y5,Y5,Y5,Y5,Y5,Y5,Y5] rfl rfl (any_of HT_.out (by kernel_rfl)) (fun _ _ _ h => h) (Or.inl ⟨by rfl, ?_⟩) ?_ ?_; rotate_left; (intro w'; go_simp; with_reducible rfl); rotate_left; (simp only [pq5]; rfl)
         refine done_ (done_of HT_.out (by kernel_rfl)) ?_
         try go_wp2
         go_meet
         case rel => exact ⟨_, (true), (by first | rfl | (simp; done) | (simp [*]; done)), H', ⟨by have := HJ8.out; have := HK2.out; first | omega | exact Nat.le_refl _⟩, ⟨by (with_reducible repeat (first | apply Kd.S_alloc | apply Kd.S_drewN | apply Kd.S_drew)); exact HO_5.out⟩, ⟨by (with_reducible repeat (first | apply Kd.V_alloc | apply Kd.V_drewN | apply Kd.V_drew)); exact HO_6.out⟩, ⟨by repeat (first | (with_reducible first | exact HB.out | apply below_alloc | apply pw_below_drewN | apply below_drew1) | exact HB.out)⟩⟩
       rw [if_neg c35] at H
       have c35b0 : decide (((rd_T36 t392 x11_2).f1) < ((rd_T36 t392 (ji31)).f1)) = false := decide_eq_false c35
       clear c35
       by_cases c37 : ((rd_T36 t392 (ji31)).f1) = ((rd_T36 t392 x11_2).f1)
       rotate_left
       · rw [if_neg c37] at H
         have c37b0 : (((rd_T36 t392 (ji31)).f1) == ((rd_T36 t392 x11_2).f1)) = false := beq_eq_false_iff_ne.mpr c37
         have c37b1 : (((rd_T36 t392 (ji31)).f1) != ((rd_T36 t392 x11_2).f1)) = true := bne_iff_ne.mpr c37
         have H' := Aside0.mk H
         clear H
         try go_wp2
         have n0_ := Aside0.mk (Kd.S_drew HO_5.out)
         have n1_ := Aside0.mk (Kd.V_drew HO_6.out)
         have n2_ := Aside0.mk (below_drew1 HB.out)
         clear HO_5
         clear HO_6
         clear HB
         have HO_5 := n0_
         have HO_6 := n1_
         have HB := n2_
         clear n0_ n1_ n2_
         have p407 : 0 ≤ ((ji31) : Int) := of_decide_eq_true (by first | (with_reducible assumption) | assumption)
         have q407 : (ji31) < (t392.length : Int) := of_decide_eq_true (by first | (with_reducible assumption) | assumption)
         obtain ⟨ad407, A407_1, c407_1, e407, hx407_0, hx407_1, hx407_2, hl407_1, hi407_1⟩ := at_T36 (Kd.V_reads' HO_6.out).2.2 (ji31) p407 q407
         cases e407
         obtain ⟨ce407, hce407, hMe407, hcc407⟩ := Kd.V_get HO_6.out z36 (ji31) p407 (by first | exact q407 | exact of_decide_eq_true (by first | (with_reducible assumption) | assumption) | (have e_ := (Kd.V_reads' HO_6.out).1; omega))
         obtain ⟨ua407_1, uc407_1, rfl, ul407_1, ge407_1⟩ := k36_openF hMe407
         have hv407_1 := hcc407 1 _ rfl
         rw [add_field _ _ 1 (by omega)] at hv407_1
         replace hv407_1 := Option.some.inj (hv407_1.symm.trans hx407_1)
         injection hv407_1 with hva_ hvn_ hvc_
         rw [hva_] at ge407_1
         rw [hvc_] at ul407_1
         have HL407_1 := Aside0.mk (show Kd.V (Kd.int .i64) 3 _ w.heap.size _ _ ((rd_T36 t392 (ji31)).f0.f1) from Kd.V_mk ul407_1 ge407_1)
         clear hva_ hvn_ hvc_ ge407_1 ul407_1
         clear hcc407 hce407
         have HR407_1 := Aside0.mk hi407_1
         have HC407_1 := Aside0.mk hl407_1
         clear hi407_1 hl407_1
         replace p407 := eq_true p407
         replace q407 := eq_true q407
         have p408 : 0 ≤ (x11_2 : Int) := of_decide_eq_true (by first | (with_reducible assumption) | assumption)
         have q408 : x11_2 < (t392.length : Int) := of_decide_eq_true (by first | (with_reducible assumption) | assumption)
         obtain ⟨ad408, A408_1, c408_1, e408, hx408_0, hx408_1, hx408_2, hl408_1, hi408_1⟩ := at_T36 (Kd.V_reads' HO_6.out).2.2 x11_2 p408 q408
         obtain rfl : ad407 = ad408 := (by injection e408)
         obtain ⟨ce408, hce408, hMe408, hcc408⟩ := Kd.V_get HO_6.out z36 x11_2 p408 (by first | exact q408 | exact of_decide_eq_true (by first | (with_reducible assumption) | assumption) | (have e_ := (Kd.V_reads' HO_6.out).1; omega))
         obtain ⟨ua408_1, uc408_1, rfl, ul408_1, ge408_1⟩ := k36_openF hMe408
         have hv408_1 := hcc408 1 _ rfl
         rw [add_field _ _ 1 (by omega)] at hv408_1
         replace hv408_1 := Option.some.inj (hv408_1.symm.trans hx408_1)
         injection hv408_1 with hva_ hvn_ hvc_
         rw [hva_] at ge408_1
         rw [hvc_] at ul408_1
         have HL408_1 := Aside0.mk (show Kd.V (Kd.int .i64) 3 _ w.heap.size _ _ ((rd_T36 t392 x11_2).f0.f1) from Kd.V_mk ul408_1 ge408_1)
         clear hva_ hvn_ hvc_ ge408_1 ul408_1
         clear hcc408 hce408
         have HR408_1 := Aside0.mk hi408_1
         have HC408_1 := Aside0.mk hl408_1
         clear hi408_1 hl408_1
         replace p408 := eq_true p408
         replace q408 := eq_true q408
         have p409 : 0 ≤ ((ji31) : Int) := of_decide_eq_true (by first | (with_reducible assumption) | assumption)
         have q409 : (ji31) < (t392.length : Int) := of_decide_eq_true (by first | (with_reducible assumption) | assumption)
         obtain ⟨ad409, A409_1, c409_1, e409, hx409_0, hx409_1, hx409_2, hl409_1, hi409_1⟩ := at_T36 (Kd.V_reads' HO_6.out).2.2 (ji31) p409 q409
         obtain rfl : ad407 = ad409 := (by injection e409)
         obtain ⟨ce409, hce409, hMe409, hcc409⟩ := Kd.V_get HO_6.out z36 (ji31) p409 (by first | exact q409 | exact of_decide_eq_true (by first | (with_reducible assumption) | assumption) | (have e_ := (Kd.V_reads' HO_6.out).1; omega))
         obtain ⟨ua409_1, uc409_1, rfl, ul409_1, ge409_1⟩ := k36_openF hMe409
         have hv409_1 := hcc409 1 _ rfl
         rw [add_field _ _ 1 (by omega)] at hv409_1
         replace hv409_1 := Option.some.inj (hv409_1.symm.trans hx409_1)
         injection hv409_1 with hva_ hvn_ hvc_
         rw [hva_] at ge409_1
         rw [hvc_] at ul409_1
         have HL409_1 := Aside0.mk (show Kd.V (Kd.int .i64) 3 _ w.heap.size _ _ ((rd_T36 t392 (ji31)).f0.f1) from Kd.V_mk ul409_1 ge409_1)
         clear hva_ hvn_ hvc_ ge409_1 ul409_1
         clear hcc409 hce409
         have HR409_1 := Aside0.mk hi409_1
         have HC409_1 := Aside0.mk hl409_1
         clear hi409_1 hl409_1
         replace p409 := eq_true p409
         replace q409 := eq_true q409
         have ea_ := Option.some.inj (hx407_1.symm.trans hx409_1)
         injection ea_ with ea_ en_ ec_
         subst ea_
         subst ec_
         clear en_
         have p410 : 0 ≤ (x11_2 : Int) := of_decide_eq_true (by first | (with_reducible assumption) | assumption)
         have q410 : x11_2 < (t392.length : Int) := of_decide_eq_true (by first | (with_reducible assumption) | assumption)
         obtain ⟨ad410, A410_1, c410_1, e410, hx410_0, hx410_1, hx410_2, hl410_1, hi410_1⟩ := at_T36 (Kd.V_reads' HO_6.out).2.2 x11_2 p410 q410
         obtain rfl : ad407 = ad410 := (by injection e410)
         obtain ⟨ce410, hce410, hMe410, hcc410⟩ := Kd.V_get HO_6.out z36 x11_2 p410 (by first | exact q410 | exact of_decide_eq_true (by first | (with_reducible assumption) | assumption) | (have e_ := (Kd.V_reads' HO_6.out).1; omega))
         obtain ⟨ua410_1, uc410_1, rfl, ul410_1, ge410_1⟩ := k36_openF hMe410
         have hv410_1 := hcc410 1 _ rfl
         rw [add_field _ _ 1 (by omega)] at hv410_1
         replace hv410_1 := Option.some.inj (hv410_1.symm.trans hx410_1)
         injection hv410_1 with hva_ hvn_ hvc_
         rw [hva_] at ge410_1
         rw [hvc_] at ul410_1
         have HL410_1 := Aside0.mk (show Kd.V (Kd.int .i64) 3 _ w.heap.size _ _ ((rd_T36 t392 x11_2).f0.f1) from Kd.V_mk ul410_1 ge410_1)
         clear hva_ hvn_ hvc_ ge410_1 ul410_1
         clear hcc410 hce410
         have HR410_1 := Aside0.mk hi410_1
         have HC410_1 := Aside0.mk hl410_1
         clear hi410_1 hl410_1
         replace p410 := eq_true p410
         replace q410 := eq_true q410
         have ea_ := Option.some.inj (hx408_1.symm.trans hx410_1)
         injection ea_ with ea_ en_ ec_
         subst ea_
         subst ec_
         clear en_
         refine start_ (n := 45) (S := fun w' => w'.cell? (ad407.add (((ji31)).toNat * 3)) = some (.int .i64 ((rd_T36 t392 (ji31)).f0.f0)) ∧ w'.cell? ⟨(ad407.add (((ji31)).toNat * 3)).block, (ad407.add (((ji31)).toNat * 3)).off + 1, none⟩ = some (.slice A407_1 ((rd_T36 t392 (ji31)).f0.f1).length c407_1) ∧ w'.cell? ⟨(ad407.add (((ji31)).toNat * 3)).block, (ad407.add (((ji31)).toNat * 3)).off + 2, none⟩ = some (.int .i64 ((rd_T36 t392 (ji31)).f1)) ∧ w'.cell? (ad407.add ((x11_2).toNat * 3)) = some (.int .i64 ((rd_T36 t392 x11_2).f0.f0)) ∧ w'.cell? ⟨(ad407.add ((x11_2).toNat * 3)).block, (ad407.add ((x11_2).toNat * 3)).off + 1, none⟩ = some (.slice A408_1 ((rd_T36 t392 x11_2).f0.f1).length c408_1) ∧ w'.cell? ⟨(ad407.add ((x11_2).toNat * 3)).block, (ad407.add ((x11_2).toNat * 3)).off + 2, none⟩ = some (.int .i64 ((rd_T36 t392 x11_2).f1)) ∧ w'.cell? (ad407.add (((ji31)).toNat * 3)) = some (.int .i64 ((rd_T36 t392 (ji31)).f0.f0)) ∧ w'.cell? ⟨(ad407.add (((ji31)).toNat * 3)).block, (ad407.add (((ji31)).toNat * 3)).off + 1, none⟩ = some (.slice A407_1 ((rd_T36 t392 (ji31)).f0.f1).length c407_1) ∧ w'.cell? ⟨(ad407.add (((ji31)).toNat * 3)).block, (ad407.add (((ji31)).toNat * 3)).off + 2, none⟩ = some (.int .i64 ((rd_T36 t392 (ji31)).f1)) ∧ w'.cell? (ad407.add ((x11_2).toNat * 3)) = some (.int .i64 ((rd_T36 t392 x11_2).f0.f0)) ∧ w'.cell? ⟨(ad407.add ((x11_2).toNat * 3)).block, (ad407.add ((x11_2).toNat * 3)).off + 1, none⟩ = some (.slice A408_1 ((rd_T36 t392 x11_2).f0.f1).length c408_1) ∧ w'.cell? ⟨(ad407.add ((x11_2).toNat * 3)).block, (ad407.add ((x11_2).toNat * 3)).off + 2, none⟩ = some (.int .i64 ((rd_T36 t392 x11_2).f1))) (ds := []) #[N5,N5,N5,N5,N5,N5,N5,N5,N5,N5,N5,N5,N5,N5,N5,N5,N5,N5,N5,N5,N5,N5,N5,N5,N5,N5,N5,N5,N5,N5,N5,N5,N5,N5,N5,N5,N5,N5,N5,N5,N5,N5,N5,N5,N5] (by kernel_rfl) rfl rfl ⟨hx407_0, hx407_1, hx407_2, hx408_0, hx408_1, hx408_2, hx409_0, hx409_1, hx409_2, hx410_0, hx410_1, hx410_2⟩ (fun hHeld => ?_); refine with_tabW interlocutorlaw10_RankOrder.tab12 interlocutorlaw10_RankOrder.bits12 (fun HT_ HW_ => ?_)
         generalize wr.drew = w41 at HO_5 HO_6 HB HL407_1 HL408_1 HL409_1 HL410_1 HR407_1 HR408_1 HR409_1 HR410_1 hx407_0 hx407_1 hx407_2 hx408_0 hx408_1 hx408_2 hx409_0 hx409_1 hx409_2 hx410_0 hx410_1 hx410_2 hHeld ⊢
         refine pure_ (i := 0) (N := some 57) (v := ?_) (a' := ?_) #[Y5,N5,N5,N5,N5,N5,N5,N5,N5,N5,N5,N5,N5,N5,N5,N5,N5,N5,N5,N5,N5,N5,N5,N5,N5,N5,N5,N5,N5,N5,N5,N5,N5,N5,N5,N5,N5,N5,N5,N5,N5,N5,N5,N5,N5] rfl rfl (any_of HT_.out (by kernel_rfl)) (fun _ _ _ h => h) (Or.inl ⟨by rfl, ?_⟩) ?_ ?_; rotate_left; (intro w'; go_simp; with_reducible rfl); rotate_left; (simp only [pq5]; rfl)
         refine pure_ (i := 1) (N := some 58) (v := ?_) (a' := ?_) #[Y5,Y5,N5,N5,N5,N5,N5,N5,N5,N5,N5,N5,N5,N5,N5,N5,N5,N5,N5,N5,N5,N5,N5,N5,N5,N5,N5,N5,N5,N5,N5,N5,N5,N5,N5,N5,N5,N5,N5,N5,N5,N5,N5,N5,N5] rfl rfl (any_of HT_.out (by kernel_rfl)) (fun _ _ _ h => h) (Or.inl ⟨by rfl, ?_⟩) ?_ ?_; rotate_left; (intro w'; go_simp; with_reducible rfl); rotate_left; (simp only [pq5]; rfl)
         refine pure_ (i := 2) (N := some 59) (v := ?_) (a' := ?_) #[Y5,Y5,Y5,N5,N5,N5,N5,N5,N5,N5,N5,N5,N5,N5,N5,N5,N5,N5,N5,N5,N5,N5,N5,N5,N5,N5,N5,N5,N5,N5,N5,N5,N5,N5,N5,N5,N5,N5,N5,N5,N5,N5,N5,N5,N5] rfl rfl (any_of HT_.out (by kernel_rfl)) (fun _ _ _ h => h) (Or.inl ⟨by rfl, ?_⟩) ?_ ?_; rotate_left; (intro w'; go_simp; with_reducible rfl); rotate_left; (simp only [pq5]; rfl)
         refine pure_ (i := 3) (N := some 60) (v := ?_) (a' := ?_) #[Y5,Y5,Y5,Y5,N5,N5,N5,N5,N5,N5,N5,N5,N5,N5,N5,N5,N5,N5,N5,N5,N5,N5,N5,N5,N5,N5,N5,N5,N5,N5,N5,N5,N5,N5,N5,N5,N5,N5,N5,N5,N5,N5,N5,N5,N5] rfl rfl (any_of HT_.out (by kernel_rfl)) (fun _ _ _ h => h) (Or.inl ⟨by rfl, ?_⟩) ?_ ?_; rotate_left; (intro w'; go_simp; with_reducible rfl); rotate_left; (simp only [pq5]; rfl)
         refine pure_ (i := 4) (N := some 61) (v := ?_) (a' := ?_) #[Y5,Y5,Y5,Y5,Y5,N5,N5,N5,N5,N5,N5,N5,N5,N5,N5,N5,N5,N5,N5,N5,N5,N5,N5,N5,N5,N5,N5,N5,N5,N5,N5,N5,N5,N5,N5,N5,N5,N5,N5,N5,N5,N5,N5,N5,N5] rfl rfl (any_of HT_.out (by kernel_rfl)) (fun _ _ _ h => h) (Or.inl ⟨by rfl, ?_⟩) ?_ ?_; rotate_left; (intro w'; go_simp; with_reducible rfl); rotate_left; (simp only [pq5]; rfl)
         refine pure_ (i := 5) (N := some 62) (v := ?_) (a' := ?_) #[Y5,Y5,Y5,Y5,Y5,Y5,N5,N5,N5,N5,N5,N5,N5,N5,N5,N5,N5,N5,N5,N5,N5,N5,N5,N5,N5,N5,N5,N5,N5,N5,N5,N5,N5,N5,N5,N5,N5,N5,N5,N5,N5,N5,N5,N5,N5] rfl rfl (any_of HT_.out (by kernel_rfl)) (fun _ _ _ h => h) (Or.inl ⟨by rfl, ?_⟩) ?_ ?_; rotate_left; (intro w'; go_simp; with_reducible rfl); rotate_left; (simp only [pq5]; rfl)
         refine pure_ (i := 6) (N := some 63) (v := ?_) (a' := ?_) #[Y5,Y5,Y5,Y5,Y5,Y5,Y5,N5,N5,N5,N5,N5,N5,N5,N5,N5,N5,N5,N5,N5,N5,N5,N5,N5,N5,N5,N5,N5,N5,N5,N5,N5,N5,N5,N5,N5,N5,N5,N5,N5,N5,N5,N5,N5,N5] rfl rfl (any_of HT_.out (by kernel_rfl)) (fun _ _ _ h => h) (Or.inl ⟨by rfl, ?_⟩) ?_ ?_; rotate_left; (intro w'; go_simp; with_reducible rfl); rotate_left; (simp only [pq5]; rfl)
         refine pure_ (i := 7) (N := some 64) (v := ?_) (a' := ?_) #[Y5,Y5,Y5,Y5,Y5,Y5,Y5,Y5,N5,N5,N5,N5,N5,N5,N5,N5,N5,N5,N5,N5,N5,N5,N5,N5,N5,N5,N5,N5,N5,N5,N5,N5,N5,N5,N5,N5,N5,N5,N5,N5,N5,N5,N5,N5,N5] rfl rfl (any_of HT_.out (by kernel_rfl)) (fun _ _ _ h => h) (Or.inl ⟨by rfl, ?_⟩) ?_ ?_; rotate_left; (intro w'; go_simp; with_reducible rfl); rotate_left; (simp only [pq5]; rfl)
         refine pure_ (i := 9) (N := some 66) (v := ?_) (a' := ?_) #[Y5,Y5,Y5,Y5,Y5,Y5,Y5,Y5,N5,Y5,N5,N5,N5,N5,N5,N5,N5,N5,N5,N5,N5,N5,N5,N5,N5,N5,N5,N5,N5,N5,N5,N5,N5,N5,N5,N5,N5,N5,N5,N5,N5,N5,N5,N5,N5] rfl rfl (any_of HT_.out (by kernel_rfl)) (fun _ _ _ h => h) (Or.inl ⟨by rfl, ?_⟩) ?_ ?_; rotate_left; (intro w'; go_simp; with_reducible rfl); rotate_left; (simp only [pq5]; rfl)
         refine pure_ (i := 10) (N := some 67) (v := ?_) (a' := ?_) #[Y5,Y5,Y5,Y5,Y5,Y5,Y5,Y5,N5,Y5,Y5,N5,N5,N5,N5,N5,N5,N5,N5,N5,N5,N5,N5,N5,N5,N5,N5,N5,N5,N5,N5,N5,N5,N5,N5,N5,N5,N5,N5,N5,N5,N5,N5,N5,N5] rfl rfl (any_of HT_.out (by kernel_rfl)) (fun _ _ _ h => h) (Or.inl ⟨by rfl, ?_⟩) ?_ ?_; rotate_left; (intro w'; go_simp; with_reducible rfl); rotate_left; (simp only [pq5]; rfl)
         refine pure_ (i := 11) (N := some 68) (v := ?_) (a' := ?_) #[Y5,Y5,Y5,Y5,Y5,Y5,Y5,Y5,N5,Y5,Y5,Y5,N5,N5,N5,N5,N5,N5,N5,N5,N5,N5,N5,N5,N5,N5,N5,N5,N5,N5,N5,N5,N5,N5,N5,N5,N5,N5,N5,N5,N5,N5,N5,N5,N5] rfl rfl (any_of HT_.out (by kernel_rfl)) (fun _ _ _ h => h) (Or.inl ⟨by rfl, ?_⟩) ?_ ?_; rotate_left; (intro w'; go_simp; with_reducible rfl); rotate_left; (simp only [pq5]; rfl)
         refine pure_ (i := 12) (N := some 69) (v := ?_) (a' := ?_) #[Y5,Y5,Y5,Y5,Y5,Y5,Y5,Y5,N5,Y5,Y5,Y5,Y5,N5,N5,N5,N5,N5,N5,N5,N5,N5,N5,N5,N5,N5,N5,N5,N5,N5,N5,N5,N5,N5,N5,N5,N5,N5,N5,N5,N5,N5,N5,N5,N5] rfl rfl (any_of HT_.out (by kernel_rfl)) (fun _ _ _ h => h) (Or.inl ⟨by rfl, ?_⟩) ?_ ?_; rotate_left; (intro w'; go_simp; with_reducible rfl); rotate_left; (simp only [pq5]; rfl)
         refine take_ (i := 8) (N := some 65) (v := ?_) (a' := ?_) #[Y5,Y5,Y5,Y5,Y5,Y5,Y5,Y5,Y5,Y5,Y5,Y5,Y5,N5,N5,N5,N5,N5,N5,N5,N5,N5,N5,N5,N5,N5,N5,N5,N5,N5,N5,N5,N5,N5,N5,N5,N5,N5,N5,N5,N5,N5,N5,N5,N5] rfl rfl (take_ofW HT_.out HW_.out (by kernel_rfl)) (fun _ _ _ h => h) (Or.inl ⟨by rfl, ?_⟩) hHeld ?_ ?_
         rotate_left
         · rintro w' ⟨s0, s1, s2, s3, s4, s5, s6, s7, s8, s9, s10, s11⟩
           go_simp
           with_reducible rfl
         rotate_left
         · simp only [pq5]
           rfl
         refine take_ (i := 13) (N := some 70) (v := ?_) (a' := ?_) #[Y5,Y5,Y5,Y5,Y5,Y5,Y5,Y5,Y5,Y5,Y5,Y5,Y5,Y5,N5,N5,N5,N5,N5,N5,N5,N5,N5,N5,N5,N5,N5,N5,N5,N5,N5,N5,N5,N5,N5,N5,N5,N5,N5,N5,N5,N5,N5,N5,N5] rfl rfl (take_ofW HT_.out HW_.out (by kernel_rfl)) (fun _ _ _ h => h) (Or.inl ⟨by rfl, ?_⟩) hHeld ?_ ?_
         rotate_left
         · rintro w' ⟨s0, s1, s2, s3, s4, s5, s6, s7, s8, s9, s10, s11⟩
           go_simp
           with_reducible rfl
         rotate_left
         · simp only [pq5]
           rfl
         refine pure_ (i := 14) (N := some 71) (v := ?_) (a' := ?_) #[Y5,Y5,Y5,Y5,Y5,Y5,Y5,Y5,Y5,Y5,Y5,Y5,Y5,Y5,Y5,N5,N5,N5,N5,N5,N5,N5,N5,N5,N5,N5,N5,N5,N5,N5,N5,N5,N5,N5,N5,N5,N5,N5,N5,N5,N5,N5,N5,N5,N5] rfl rfl (any_of HT_.out (by kernel_rfl)) (fun _ _ _ h => h) (Or.inl ⟨by rfl, ?_⟩) ?_ ?_; rotate_left; (intro w'; go_simp; with_reducible rfl); rotate_left; (simp only [pq5]; rfl)
         refine pure_ (i := 15) (N := some 72) (v := ?_) (a' := ?_) #[Y5,Y5,Y5,Y5,Y5,Y5,Y5,Y5,Y5,Y5,Y5,Y5,Y5,Y5,Y5,Y5,N5,N5,N5,N5,N5,N5,N5,N5,N5,N5,N5,N5,N5,N5,N5,N5,N5,N5,N5,N5,N5,N5,N5,N5,N5,N5,N5,N5,N5] rfl rfl (any_of HT_.out (by kernel_rfl)) (fun _ _ _ h => h) (Or.inl ⟨by rfl, ?_⟩) ?_ ?_; rotate_left; (intro w'; go_simp; with_reducible rfl); rotate_left; (simp only [pq5]; rfl)
         refine pure_ (i := 16) (N := some 73) (v := ?_) (a' := ?_) #[Y5,Y5,Y5,Y5,Y5,Y5,Y5,Y5,Y5,Y5,Y5,Y5,Y5,Y5,Y5,Y5,Y5,N5,N5,N5,N5,N5,N5,N5,N5,N5,N5,N5,N5,N5,N5,N5,N5,N5,N5,N5,N5,N5,N5,N5,N5,N5,N5,N5,N5] rfl rfl (any_of HT_.out (by kernel_rfl)) (fun _ _ _ h => h) (Or.inl ⟨by rfl, ?_⟩) ?_ ?_; rotate_left; (intro w'; go_simp; with_reducible rfl); rotate_left; (simp only [pq5]; rfl)
         refine pure_ (i := 17) (N := some 74) (v := ?_) (a' := ?_) #[Y5,Y5,Y5,Y5,Y5,Y5,Y5,Y5,Y5,Y5,Y5,Y5,Y5,Y5,Y5,Y5,Y5,Y5,N5,N5,N5,N5,N5,N5,N5,N5,N5,N5,N5,N5,N5,N5,N5,N5,N5,N5,N5,N5,N5,N5,N5,N5,N5,N5,N5] rfl rfl (any_of HT_.out (by kernel_rfl)) (fun _ _ _ h => h) (Or.inl ⟨by rfl, ?_⟩) ?_ ?_; rotate_left; (intro w'; go_simp; with_reducible rfl); rotate_left; (simp only [pq5]; rfl)
         refine pure_ (i := 18) (N := some 75) (v := ?_) (a' := ?_) #[Y5,Y5,Y5,Y5,Y5,Y5,Y5,Y5,Y5,Y5,Y5,Y5,Y5,Y5,Y5,Y5,Y5,Y5,Y5,N5,N5,N5,N5,N5,N5,N5,N5,N5,N5,N5,N5,N5,N5,N5,N5,N5,N5,N5,N5,N5,N5,N5,N5,N5,N5] rfl rfl (any_of HT_.out (by kernel_rfl)) (fun _ _ _ h => h) (Or.inl ⟨by rfl, ?_⟩) ?_ ?_; rotate_left; (intro w'; go_simp; with_reducible rfl); rotate_left; (simp only [pq5]; rfl)
         refine pure_ (i := 19) (N := some 76) (v := ?_) (a' := ?_) #[Y5,Y5,Y5,Y5,Y5,Y5,Y5,Y5,Y5,Y5,Y5,Y5,Y5,Y5,Y5,Y5,Y5,Y5,Y5,Y5,N5,N5,N5,N5,N5,N5,N5,N5,N5,N5,N5,N5,N5,N5,N5,N5,N5,N5,N5,N5,N5,N5,N5,N5,N5] rfl rfl (any_of HT_.out (by kernel_rfl)) (fun _ _ _ h => h) (Or.inl ⟨by rfl, ?_⟩) ?_ ?_; rotate_left; (intro w'; go_simp; with_reducible rfl); rotate_left; (simp only [pq5]; rfl)
         refine pure_ (i := 20) (N := some 77) (v := ?_) (a' := ?_) #[Y5,Y5,Y5,Y5,Y5,Y5,Y5,Y5,Y5,Y5,Y5,Y5,Y5,Y5,Y5,Y5,Y5,Y5,Y5,Y5,Y5,N5,N5,N5,N5,N5,N5,N5,N5,N5,N5,N5,N5,N5,N5,N5,N5,N5,N5,N5,N5,N5,N5,N5,N5] rfl rfl (any_of HT_.out (by kernel_rfl)) (fun _ _ _ h => h) (Or.inl ⟨by rfl, ?_⟩) ?_ ?_; rotate_left; (intro w'; go_simp; with_reducible rfl); rotate_left; (simp only [pq5]; rfl)
         refine pure_ (i := 22) (N := some 79) (v := ?_) (a' := ?_) #[Y5,Y5,Y5,Y5,Y5,Y5,Y5,Y5,Y5,Y5,Y5,Y5,Y5,Y5,Y5,Y5,Y5,Y5,Y5,Y5,Y5,N5,Y5,N5,N5,N5,N5,N5,N5,N5,N5,N5,N5,N5,N5,N5,N5,N5,N5,N5,N5,N5,N5,N5,N5] rfl rfl (any_of HT_.out (by kernel_rfl)) (fun _ _ _ h => h) (Or.inl ⟨by rfl, ?_⟩) ?_ ?_; rotate_left; (intro w'; go_simp; with_reducible rfl); rotate_left; (simp only [pq5]; rfl)
         refine pure_ (i := 23) (N := some 80) (v := ?_) (a' := ?_) #[Y5,Y5,Y5,Y5,Y5,Y5,Y5,Y5,Y5,Y5,Y5,Y5,Y5,Y5,Y5,Y5,Y5,Y5,Y5,Y5,Y5,N5,Y5,Y5,N5,N5,N5,N5,N5,N5,N5,N5,N5,N5,N5,N5,N5,N5,N5,N5,N5,N5,N5,N5,N5] rfl rfl (any_of HT_.out (by kernel_rfl)) (fun _ _ _ h => h) (Or.inl ⟨by rfl, ?_⟩) ?_ ?_; rotate_left; (intro w'; go_simp; with_reducible rfl); rotate_left; (simp only [pq5]; rfl)
         refine pure_ (i := 24) (N := some 81) (v := ?_) (a' := ?_) #[Y5,Y5,Y5,Y5,Y5,Y5,Y5,Y5,Y5,Y5,Y5,Y5,Y5,Y5,Y5,Y5,Y5,Y5,Y5,Y5,Y5,N5,Y5,Y5,Y5,N5,N5,N5,N5,N5,N5,N5,N5,N5,N5,N5,N5,N5,N5,N5,N5,N5,N5,N5,N5] rfl rfl (any_of HT_.out (by kernel_rfl)) (fun _ _ _ h => h) (Or.inl ⟨by rfl, ?_⟩) ?_ ?_; rotate_left; (intro w'; go_simp; with_reducible rfl); rotate_left; (simp only [pq5]; rfl)
         refine pure_ (i := 25) (N := some 82) (v := ?_) (a' := ?_) #[Y5,Y5,Y5,Y5,Y5,Y5,Y5,Y5,Y5,Y5,Y5,Y5,Y5,Y5,Y5,Y5,Y5,Y5,Y5,Y5,Y5,N5,Y5,Y5,Y5,Y5,N5,N5,N5,N5,N5,N5,N5,N5,N5,N5,N5,N5,N5,N5,N5,N5,N5,N5,N5] rfl rfl (any_of HT_.out (by kernel_rfl)) (fun _ _ _ h => h) (Or.inl ⟨by rfl, ?_⟩) ?_ ?_; rotate_left; (intro w'; go_simp; with_reducible rfl); rotate_left; (simp only [pq5]; rfl)
         refine take_ (i := 21) (N := some 78) (v := ?_) (a' := ?_) #[Y5,Y5,Y5,Y5,Y5,Y5,Y5,Y5,Y5,Y5,Y5,Y5,Y5,Y5,Y5,Y5,Y5,Y5,Y5,Y5,Y5,Y5,Y5,Y5,Y5,Y5,N5,N5,N5,N5,N5,N5,N5,N5,N5,N5,N5,N5,N5,N5,N5,N5,N5,N5,N5] rfl rfl (take_ofW HT_.out HW_.out (by kernel_rfl)) (fun _ _ _ h => h) (Or.inl ⟨by rfl, ?_⟩) hHeld ?_ ?_
         rotate_left
         · rintro w' ⟨s0, s1, s2, s3, s4, s5, s6, s7, s8, s9, s10, s11⟩
           go_simp
           with_reducible rfl
         rotate_left
         · simp only [pq5]
           rfl
         refine take_ (i := 26) (N := some 83) (v := ?_) (a' := ?_) #[Y5,Y5,Y5,Y5,Y5,Y5,Y5,Y5,Y5,Y5,Y5,Y5,Y5,Y5,Y5,Y5,Y5,Y5,Y5,Y5,Y5,Y5,Y5,Y5,Y5,Y5,Y5,N5,N5,N5,N5,N5,N5,N5,N5,N5,N5,N5,N5,N5,N5,N5,N5,N5,N5] rfl rfl (take_ofW HT_.out HW_.out (by kernel_rfl)) (fun _ _ _ h => h) (Or.inl ⟨by rfl, ?_⟩) hHeld ?_ ?_
         rotate_left
         · rintro w' ⟨s0, s1, s2, s3, s4, s5, s6, s7, s8, s9, s10, s11⟩
           go_simp
           with_reducible rfl
         rotate_left
         · simp only [pq5]
           rfl
         refine pure_ (i := 27) (N := some 84) (v := ?_) (a' := ?_) #[Y5,Y5,Y5,Y5,Y5,Y5,Y5,Y5,Y5,Y5,Y5,Y5,Y5,Y5,Y5,Y5,Y5,Y5,Y5,Y5,Y5,Y5,Y5,Y5,Y5,Y5,Y5,Y5,N5,N5,N5,N5,N5,N5,N5,N5,N5,N5,N5,N5,N5,N5,N5,N5,N5] rfl rfl (any_of HT_.out (by kernel_rfl)) (fun _ _ _ h => h) (Or.inl ⟨by rfl, ?_⟩) ?_ ?_; rotate_left; (intro w'; go_simp; with_reducible rfl); rotate_left; (simp only [pq5]; rfl)
         refine pure_ (i := 28) (N := some 85) (v := ?_) (a' := ?_) #[Y5,Y5,Y5,Y5,Y5,Y5,Y5,Y5,Y5,Y5,Y5,Y5,Y5,Y5,Y5,Y5,Y5,Y5,Y5,Y5,Y5,Y5,Y5,Y5,Y5,Y5,Y5,Y5,Y5,N5,N5,N5,N5,N5,N5,N5,N5,N5,N5,N5,N5,N5,N5,N5,N5] rfl rfl (any_of HT_.out (by kernel_rfl)) (fun _ _ _ h => h) (Or.inl ⟨by rfl, ?_⟩) ?_ ?_; rotate_left; (intro w'; go_simp; with_reducible rfl); rotate_left; (simp only [pq5]; rfl)
         refine pure_ (i := 29) (N := some 86) (v := undef) (a' := ?_) #[Y5,Y5,Y5,Y5,Y5,Y5,Y5,Y5,Y5,Y5,Y5,Y5,Y5,Y5,Y5,Y5,Y5,Y5,Y5,Y5,Y5,Y5,Y5,Y5,Y5,Y5,Y5,Y5,Y5,Y5,N5,N5,N5,N5,N5,N5,N5,N5,N5,N5,N5,N5,N5,N5,N5] rfl rfl (any_of HT_.out (by kernel_rfl)) (fun _ _ _ h => h) (Or.inr ⟨by rfl, rfl⟩) ?_ ?_
         rotate_left
         · simp only [pq5]
           rfl
         refine pure_ (i := 30) (N := some 87) (v := undef) (a' := ?_) #[Y5,Y5,Y5,Y5,Y5,Y5,Y5,Y5,Y5,Y5,Y5,Y5,Y5,Y5,Y5,Y5,Y5,Y5,Y5,Y5,Y5,Y5,Y5,Y5,Y5,Y5,Y5,Y5,Y5,Y5,Y5,N5,N5,N5,N5,N5,N5,N5,N5,N5,N5,N5,N5,N5,N5] rfl rfl (any_of HT_.out (by kernel_rfl)) (fun _ _ _ h => h) (Or.inr ⟨by rfl, rfl⟩) ?_ ?_
         rotate_left
         · simp only [pq5]
           rfl
         refine pure_ (i := 31) (N := some 88) (v := undef) (a' := ?_) #[Y5,Y5,Y5,Y5,Y5,Y5,Y5,Y5,Y5,Y5,Y5,Y5,Y5,Y5,Y5,Y5,Y5,Y5,Y5,Y5,Y5,Y5,Y5,Y5,Y5,Y5,Y5,Y5,Y5,Y5,Y5,Y5,N5,N5,N5,N5,N5,N5,N5,N5,N5,N5,N5,N5,N5] rfl rfl (any_of HT_.out (by kernel_rfl)) (fun _ _ _ h => h) (Or.inr ⟨by rfl, rfl⟩) ?_ ?_
         rotate_left
         · simp only [pq5]
           rfl
         refine pure_ (i := 32) (N := some 89) (v := undef) (a' := ?_) #[Y5,Y5,Y5,Y5,Y5,Y5,Y5,Y5,Y5,Y5,Y5,Y5,Y5,Y5,Y5,Y5,Y5,Y5,Y5,Y5,Y5,Y5,Y5,Y5,Y5,Y5,Y5,Y5,Y5,Y5,Y5,Y5,Y5,N5,N5,N5,N5,N5,N5,N5,N5,N5,N5,N5,N5] rfl rfl (any_of HT_.out (by kernel_rfl)) (fun _ _ _ h => h) (Or.inr ⟨by rfl, rfl⟩) ?_ ?_
         rotate_left
         · simp only [pq5]
           rfl
         refine pure_ (i := 33) (N := some 90) (v := undef) (a' := ?_) #[Y5,Y5,Y5,Y5,Y5,Y5,Y5,Y5,Y5,Y5,Y5,Y5,Y5,Y5,Y5,Y5,Y5,Y5,Y5,Y5,Y5,Y5,Y5,Y5,Y5,Y5,Y5,Y5,Y5,Y5,Y5,Y5,Y5,Y5,N5,N5,N5,N5,N5,N5,N5,N5,N5,N5,N5] rfl rfl (any_of HT_.out (by kernel_rfl)) (fun _ _ _ h => h) (Or.inr ⟨by rfl, rfl⟩) ?_ ?_
         rotate_left
         · simp only [pq5]
           rfl
         refine pure_ (i := 34) (N := some 91) (v := undef) (a' := ?_) #[Y5,Y5,Y5,Y5,Y5,Y5,Y5,Y5,Y5,Y5,Y5,Y5,Y5,Y5,Y5,Y5,Y5,Y5,Y5,Y5,Y5,Y5,Y5,Y5,Y5,Y5,Y5,Y5,Y5,Y5,Y5,Y5,Y5,Y5,Y5,N5,N5,N5,N5,N5,N5,N5,N5,N5,N5] rfl rfl (any_of HT_.out (by kernel_rfl)) (fun _ _ _ h => h) (Or.inr ⟨by rfl, rfl⟩) ?_ ?_
         rotate_left
         · simp only [pq5]
           rfl
         refine pure_ (i := 35) (N := some 92) (v := undef) (a' := ?_) #[Y5,Y5,Y5,Y5,Y5,Y5,Y5,Y5,Y5,Y5,Y5,Y5,Y5,Y5,Y5,Y5,Y5,Y5,Y5,Y5,Y5,Y5,Y5,Y5,Y5,Y5,Y5,Y5,Y5,Y5,Y5,Y5,Y5,Y5,Y5,Y5,N5,N5,N5,N5,N5,N5,N5,N5,N5] rfl rfl (any_of HT_.out (by kernel_rfl)) (fun _ _ _ h => h) (Or.inr ⟨by rfl, rfl⟩) ?_ ?_
         rotate_left
         · simp only [pq5]
           rfl
         refine pure_ (i := 36) (N := some 93) (v := undef) (a' := ?_) #[Y5,Y5,Y5,Y5,Y5,Y5,Y5,Y5,Y5,Y5,Y5,Y5,Y5,Y5,Y5,Y5,Y5,Y5,Y5,Y5,Y5,Y5,Y5,Y5,Y5,Y5,Y5,Y5,Y5,Y5,Y5,Y5,Y5,Y5,Y5,Y5,Y5,N5,N5,N5,N5,N5,N5,N5,N5] rfl rfl (any_of HT_.out (by kernel_rfl)) (fun _ _ _ h => h) (Or.inr ⟨by rfl, rfl⟩) ?_ ?_
         rotate_left
         · simp only [pq5]
           rfl
         refine pure_ (i := 37) (N := some 94) (v := undef) (a' := ?_) #[Y5,Y5,Y5,Y5,Y5,Y5,Y5,Y5,Y5,Y5,Y5,Y5,Y5,Y5,Y5,Y5,Y5,Y5,Y5,Y5,Y5,Y5,Y5,Y5,Y5,Y5,Y5,Y5,Y5,Y5,Y5,Y5,Y5,Y5,Y5,Y5,Y5,Y5,N5,N5,N5,N5,N5,N5,N5] rfl rfl (any_of HT_.out (by kernel_rfl)) (fun _ _ _ h => h) (Or.inr ⟨by rfl, rfl⟩) ?_ ?_
         rotate_left
         · simp only [pq5]
           rfl
         refine pure_ (i := 38) (N := some 95) (v := undef) (a' := ?_) #[Y5,Y5,Y5,Y5,Y5,Y5,Y5,Y5,Y5,Y5,Y5,Y5,Y5,Y5,Y5,Y5,Y5,Y5,Y5,Y5,Y5,Y5,Y5,Y5,Y5,Y5,Y5,Y5,Y5,Y5,Y5,Y5,Y5,Y5,Y5,Y5,Y5,Y5,Y5,N5,N5,N5,N5,N5,N5] rfl rfl (any_of HT_.out (by kernel_rfl)) (fun _ _ _ h => h) (Or.inr ⟨by rfl, rfl⟩) ?_ ?_
         rotate_left
         · simp only [pq5]
           rfl
         refine pure_ (i := 39) (N := some 96) (v := undef) (a' := ?_) #[Y5,Y5,Y5,Y5,Y5,Y5,Y5,Y5,Y5,Y5,Y5,Y5,Y5,Y5,Y5,Y5,Y5,Y5,Y5,Y5,Y5,Y5,Y5,Y5,Y5,Y5,Y5,Y5,Y5,Y5,Y5,Y5,Y5,Y5,Y5,Y5,Y5,Y5,Y5,Y5,N5,N5,N5,N5,N5] rfl rfl (any_of HT_.out (by kernel_rfl)) (fun _ _ _ h => h) (Or.inr ⟨by rfl, rfl⟩) ?_ ?_
         rotate_left
         · simp only [pq5]
           rfl
         refine pure_ (i := 40) (N := some 97) (v := undef) (a' := ?_) #[Y5,Y5,Y5,Y5,Y5,Y5,Y5,Y5,Y5,Y5,Y5,Y5,Y5,Y5,Y5,Y5,Y5,Y5,Y5,Y5,Y5,Y5,Y5,Y5,Y5,Y5,Y5,Y5,Y5,Y5,Y5,Y5,Y5,Y5,Y5,Y5,Y5,Y5,Y5,Y5,Y5,N5,N5,N5,N5] rfl rfl (any_of HT_.out (by kernel_rfl)) (fun _ _ _ h => h) (Or.inr ⟨by rfl, rfl⟩) ?_ ?_
         rotate_left
         · simp only [pq5]
           rfl
         refine pure_ (i := 41) (N := some 98) (v := undef) (a' := ?_) #[Y5,Y5,Y5,Y5,Y5,Y5,Y5,Y5,Y5,Y5,Y5,Y5,Y5,Y5,Y5,Y5,Y5,Y5,Y5,Y5,Y5,Y5,Y5,Y5,Y5,Y5,Y5,Y5,Y5,Y5,Y5,Y5,Y5,Y5,Y5,Y5,Y5,Y5,Y5,Y5,Y5,Y5,N5,N5,N5] rfl rfl (any_of HT_.out (by kernel_rfl)) (fun _ _ _ h => h) (Or.inr ⟨by rfl, rfl⟩) ?_ ?_
         rotate_left
         · simp only [pq5]
           rfl
         refine pure_ (i := 42) (N := some 99) (v := ?_) (a' := ?_) #[Y5,Y5,Y5,Y5,Y5,Y5,Y5,Y5,Y5,Y5,Y5,Y5,Y5,Y5,Y5,Y5,Y5,Y5,Y5,Y5,Y5,Y5,Y5,Y5,Y5,Y5,Y5,Y5,Y5,Y5,Y5,Y5,Y5,Y5,Y5,Y5,Y5,Y5,Y5,Y5,Y5,Y5,Y5,N5,N5] rfl rfl (any_of HT_.out (by kernel_rfl)) (fun _ _ _ h => h) (Or.inl ⟨by rfl, ?_⟩) ?_ ?_; rotate_left; (intro w'; go_simp; with_reducible rfl); rotate_left; (simp only [pq5]; rfl)
         refine pure_ (i := 43) (N := some 100) (v := ?_) (a' := ?_) #[Y5,Y5,Y5,Y5,Y5,Y5,Y5,Y5,Y5,Y5,Y5,Y5,Y5,Y5,Y5,Y5,Y5,Y5,Y5,Y5,Y5,Y5,Y5,Y5,Y5,Y5,Y5,Y5,Y5,Y5,Y5,Y5,Y5,Y5,Y5,Y5,Y5,Y5,Y5,Y5,Y5,Y5,Y5,Y5,N5] rfl rfl (any_of HT_.out (by kernel_rfl)) (fun _ _ _ h => h) (Or.inl ⟨by rfl, ?_⟩) ?_ ?_; rotate_left; (intro w'; go_simp; with_reducible rfl); rotate_left; (simp only [pq5]; rfl)
         refine pure_ (i := 44) (N := some 101) (v := ?_) (a' := ?_) #[Y5,Y5,Y5,Y5,Y5,Y5,Y5,Y5,Y5,Y5,Y5,Y5,Y5,Y5,Y5,Y5,Y5,Y5,Y5,Y5,Y5,Y5,Y5,Y5,Y5,Y5,Y5,Y5,Y5,Y5,Y5,Y5,Y5,Y5,Y5,Y5,Y5,Y5,Y5,Y5,Y5,Y5,Y5,Y5,Y5] rfl rfl (any_of HT_.out (by kernel_rfl)) (fun _ _ _ h => h) (Or.inl ⟨by rfl, ?_⟩) ?_ ?_; rotate_left; (intro w'; go_simp; with_reducible rfl); rotate_left; (simp only [pq5]; rfl)
         refine done_ (done_of HT_.out (by kernel_rfl)) ?_
         try go_wp2
         go_meet
         case rel => exact ⟨_, (false), (by first | rfl | (simp; done) | (simp [*]; done)), H', ⟨by have := HJ8.out; have := HK2.out; first | omega | exact Nat.le_refl _⟩, ⟨by (with_reducible repeat (first | apply Kd.S_alloc | apply Kd.S_drewN | apply Kd.S_drew)); exact HO_5.out⟩, ⟨by (with_reducible repeat (first | apply Kd.V_alloc | apply Kd.V_drewN | apply Kd.V_drew)); exact HO_6.out⟩, ⟨by repeat (first | (with_reducible first | exact HB.out | apply below_alloc | apply pw_below_drewN | apply below_drew1) | exact HB.out)⟩⟩
       rw [if_pos c37] at H
       have c37b0 : (((rd_T36 t392 (ji31)).f1) == ((rd_T36 t392 x11_2).f1)) = true := beq_iff_eq.mpr c37
       have c37b1 : (((rd_T36 t392 (ji31)).f1) != ((rd_T36 t392 x11_2).f1)) = false := bne_eq_false_iff_eq.mpr c37
       clear c37
       replace H := Option.bind_eq_some_iff.mp H
       obtain ⟨t413, A380, H⟩ := H
       replace H : (interlocutorlaw10_RankOrder.j2 k2 t389 t392 x11_2 (decide (t413 ≥ 0))) = some r := H
       have A38 := Aside0.mk A380
       clear A380
       have H' := Aside0.mk H
       clear H
       try go_wp2
       have n0_ := Aside0.mk (Kd.S_drew HO_5.out)
       have n1_ := Aside0.mk (Kd.V_drew HO_6.out)
       have n2_ := Aside0.mk (below_drew1 HB.out)
       clear HO_5
       clear HO_6
       clear HB
       have HO_5 := n0_
       have HO_6 := n1_
       have HB := n2_
       clear n0_ n1_ n2_
       have p407 : 0 ≤ ((ji31) : Int) := of_decide_eq_true (by first | (with_reducible assumption) | assumption)
       have q407 : (ji31) < (t392.length : Int) := of_decide_eq_true (by first | (with_reducible assumption) | assumption)
       obtain ⟨ad407, A407_1, c407_1, e407, hx407_0, hx407_1, hx407_2, hl407_1, hi407_1⟩ := at_T36 (Kd.V_reads' HO_6.out).2.2 (ji31) p407 q407
       cases e407
       obtain ⟨ce407, hce407, hMe407, hcc407⟩ := Kd.V_get HO_6.out z36 (ji31) p407 (by first | exact q407 | exact of_decide_eq_true (by first | (with_reducible assumption) | assumption) | (have e_ := (Kd.V_reads' HO_6.out).1; omega))
       obtain ⟨ua407_1, uc407_1, rfl, ul407_1, ge407_1⟩ := k36_openF hMe407
       have hv407_1 := hcc407 1 _ rfl
       rw [add_field _ _ 1 (by omega)] at hv407_1
       replace hv407_1 := Option.some.inj (hv407_1.symm.trans hx407_1)
       injection hv407_1 with hva_ hvn_ hvc_
       rw [hva_] at ge407_1
       rw [hvc_] at ul407_1
       have HL407_1 := Aside0.mk (show Kd.V (Kd.int .i64) 3 _ w.heap.size _ _ ((rd_T36 t392 (ji31)).f0.f1) from Kd.V_mk ul407_1 ge407_1)
       clear hva_ hvn_ hvc_ ge407_1 ul407_1
       clear hcc407 hce407
       have HR407_1 := Aside0.mk hi407_1
       have HC407_1 := Aside0.mk hl407_1
       clear hi407_1 hl407_1
       replace p407 := eq_true p407
       replace q407 := eq_true q407
       have p408 : 0 ≤ (x11_2 : Int) := of_decide_eq_true (by first | (with_reducible assumption) | assumption)
       have q408 : x11_2 < (t392.length : Int) := of_decide_eq_true (by first | (with_reducible assumption) | assumption)
       obtain ⟨ad408, A408_1, c408_1, e408, hx408_0, hx408_1, hx408_2, hl408_1, hi408_1⟩ := at_T36 (Kd.V_reads' HO_6.out).2.2 x11_2 p408 q408
       obtain rfl : ad407 = ad408 := (by injection e408)
       obtain ⟨ce408, hce408, hMe408, hcc408⟩ := Kd.V_get HO_6.out z36 x11_2 p408 (by first | exact q408 | exact of_decide_eq_true (by first | (with_reducible assumption) | assumption) | (have e_ := (Kd.V_reads' HO_6.out).1; omega))
       obtain ⟨ua408_1, uc408_1, rfl, ul408_1, ge408_1⟩ := k36_openF hMe408
       have hv408_1 := hcc408 1 _ rfl
       rw [add_field _ _ 1 (by omega)] at hv408_1
       replace hv408_1 := Option.some.inj (hv408_1.symm.trans hx408_1)
       injection hv408_1 with hva_ hvn_ hvc_
       rw [hva_] at ge408_1
       rw [hvc_] at ul408_1
       have HL408_1 := Aside0.mk (show Kd.V (Kd.int .i64) 3 _ w.heap.size _ _ ((rd_T36 t392 x11_2).f0.f1) from Kd.V_mk ul408_1 ge408_1)
       clear hva_ hvn_ hvc_ ge408_1 ul408_1
       clear hcc408 hce408
       have HR408_1 := Aside0.mk hi408_1
       have HC408_1 := Aside0.mk hl408_1
       clear hi408_1 hl408_1
       replace p408 := eq_true p408
       replace q408 := eq_true q408
       have p409 : 0 ≤ ((ji31) : Int) := of_decide_eq_true (by first | (with_reducible assumption) | assumption)
       have q409 : (ji31) < (t392.length : Int) := of_decide_eq_true (by first | (with_reducible assumption) | assumption)
       obtain ⟨ad409, A409_1, c409_1, e409, hx409_0, hx409_1, hx409_2, hl409_1, hi409_1⟩ := at_T36 (Kd.V_reads' HO_6.out).2.2 (ji31) p409 q409
       obtain rfl : ad407 = ad409 := (by injection e409)
       obtain ⟨ce409, hce409, hMe409, hcc409⟩ := Kd.V_get HO_6.out z36 (ji31) p409 (by first | exact q409 | exact of_decide_eq_true (by first | (with_reducible assumption) | assumption) | (have e_ := (Kd.V_reads' HO_6.out).1; omega))
       obtain ⟨ua409_1, uc409_1, rfl, ul409_1, ge409_1⟩ := k36_openF hMe409
       have hv409_1 := hcc409 1 _ rfl
       rw [add_field _ _ 1 (by omega)] at hv409_1
       replace hv409_1 := Option.some.inj (hv409_1.symm.trans hx409_1)
       injection hv409_1 with hva_ hvn_ hvc_
       rw [hva_] at ge409_1
       rw [hvc_] at ul409_1
       have HL409_1 := Aside0.mk (show Kd.V (Kd.int .i64) 3 _ w.heap.size _ _ ((rd_T36 t392 (ji31)).f0.f1) from Kd.V_mk ul409_1 ge409_1)
       clear hva_ hvn_ hvc_ ge409_1 ul409_1
       clear hcc409 hce409
       have HR409_1 := Aside0.mk hi409_1
       have HC409_1 := Aside0.mk hl409_1
       clear hi409_1 hl409_1
       replace p409 := eq_true p409
       replace q409 := eq_true q409
       have ea_ := Option.some.inj (hx407_1.symm.trans hx409_1)
       injection ea_ with ea_ en_ ec_
       subst ea_
       subst ec_
       clear en_
       have p410 : 0 ≤ (x11_2 : Int) := of_decide_eq_true (by first | (with_reducible assumption) | assumption)
       have q410 : x11_2 < (t392.length : Int) := of_decide_eq_true (by first | (with_reducible assumption) | assumption)
       obtain ⟨ad410, A410_1, c410_1, e410, hx410_0, hx410_1, hx410_2, hl410_1, hi410_1⟩ := at_T36 (Kd.V_reads' HO_6.out).2.2 x11_2 p410 q410
       obtain rfl : ad407 = ad410 := (by injection e410)
       obtain ⟨ce410, hce410, hMe410, hcc410⟩ := Kd.V_get HO_6.out z36 x11_2 p410 (by first | exact q410 | exact of_decide_eq_true (by first | (with_reducible assumption) | assumption) | (have e_ := (Kd.V_reads' HO_6.out).1; omega))
       obtain ⟨ua410_1, uc410_1, rfl, ul410_1, ge410_1⟩ := k36_openF hMe410
       have hv410_1 := hcc410 1 _ rfl
       rw [add_field _ _ 1 (by omega)] at hv410_1
       replace hv410_1 := Option.some.inj (hv410_1.symm.trans hx410_1)
       injection hv410_1 with hva_ hvn_ hvc_
       rw [hva_] at ge410_1
       rw [hvc_] at ul410_1
       have HL410_1 := Aside0.mk (show Kd.V (Kd.int .i64) 3 _ w.heap.size _ _ ((rd_T36 t392 x11_2).f0.f1) from Kd.V_mk ul410_1 ge410_1)
       clear hva_ hvn_ hvc_ ge410_1 ul410_1
       clear hcc410 hce410
       have HR410_1 := Aside0.mk hi410_1
       have HC410_1 := Aside0.mk hl410_1
       clear hi410_1 hl410_1
       replace p410 := eq_true p410
       replace q410 := eq_true q410
       have ea_ := Option.some.inj (hx408_1.symm.trans hx410_1)
       injection ea_ with ea_ en_ ec_
       subst ea_
       subst ec_
       clear en_
       have p411 : 0 ≤ ((ji31) : Int) := of_decide_eq_true (by first | (with_reducible assumption) | assumption)
       have q411 : (ji31) < (t392.length : Int) := of_decide_eq_true (by first | (with_reducible assumption) | assumption)
       obtain ⟨ad411, A411_1, c411_1, e411, hx411_0, hx411_1, hx411_2, hl411_1, hi411_1⟩ := at_T36 (Kd.V_reads' HO_6.out).2.2 (ji31) p411 q411
       obtain rfl : ad407 = ad411 := (by injection e411)
       obtain ⟨ce411, hce411, hMe411, hcc411⟩ := Kd.V_get HO_6.out z36 (ji31) p411 (by first | exact q411 | exact of_decide_eq_true (by first | (with_reducible assumption) | assumption) | (have e_ := (Kd.V_reads' HO_6.out).1; omega))
       obtain ⟨ua411_1, uc411_1, rfl, ul411_1, ge411_1⟩ := k36_openF hMe411
       have hv411_1 := hcc411 1 _ rfl
       rw [add_field _ _ 1 (by omega)] at hv411_1
       replace hv411_1 := Option.some.inj (hv411_1.symm.trans hx411_1)
       injection hv411_1 with hva_ hvn_ hvc_
       rw [hva_] at ge411_1
       rw [hvc_] at ul411_1
       have HL411_1 := Aside0.mk (show Kd.V (Kd.int .i64) 3 _ w.heap.size _ _ ((rd_T36 t392 (ji31)).f0.f1) from Kd.V_mk ul411_1 ge411_1)
       clear hva_ hvn_ hvc_ ge411_1 ul411_1
       clear hcc411 hce411
       have HR411_1 := Aside0.mk hi411_1
       have HC411_1 := Aside0.mk hl411_1
       clear hi411_1 hl411_1
       replace p411 := eq_true p411
       replace q411 := eq_true q411
       have ea_ := Option.some.inj (hx407_1.symm.trans hx411_1)
       injection ea_ with ea_ en_ ec_
       subst ea_
       subst ec_
       clear en_
       have p412 : 0 ≤ (x11_2 : Int) := of_decide_eq_true (by first | (with_reducible assumption) | assumption)
       have q412 : x11_2 < (t392.length : Int) := of_decide_eq_true (by first | (with_reducible assumption) | assumption)
       obtain ⟨ad412, A412_1, c412_1, e412, hx412_0, hx412_1, hx412_2, hl412_1, hi412_1⟩ := at_T36 (Kd.V_reads' HO_6.out).2.2 x11_2 p412 q412
       obtain rfl : ad407 = ad412 := (by injection e412)
       obtain ⟨ce412, hce412, hMe412, hcc412⟩ := Kd.V_get HO_6.out z36 x11_2 p412 (by first | exact q412 | exact of_decide_eq_true (by first | (with_reducible assumption) | assumption) | (have e_ := (Kd.V_reads' HO_6.out).1; omega))
       obtain ⟨ua412_1, uc412_1, rfl, ul412_1, ge412_1⟩ := k36_openF hMe412
       have hv412_1 := hcc412 1 _ rfl
       rw [add_field _ _ 1 (by omega)] at hv412_1
       replace hv412_1 := Option.some.inj (hv412_1.symm.trans hx412_1)
       injection hv412_1 with hva_ hvn_ hvc_
       rw [hva_] at ge412_1
       rw [hvc_] at ul412_1
       have HL412_1 := Aside0.mk (show Kd.V (Kd.int .i64) 3 _ w.heap.size _ _ ((rd_T36 t392 x11_2).f0.f1) from Kd.V_mk ul412_1 ge412_1)
       clear hva_ hvn_ hvc_ ge412_1 ul412_1
       clear hcc412 hce412
       have HR412_1 := Aside0.mk hi412_1
       have HC412_1 := Aside0.mk hl412_1
       clear hi412_1 hl412_1
       replace p412 := eq_true p412
       replace q412 := eq_true q412
       have ea_ := Option.some.inj (hx408_1.symm.trans hx412_1)
       injection ea_ with ea_ en_ ec_
       subst ea_
       subst ec_
       clear en_
       refine start_ (n := 45) (S := fun w' => w'.cell? (ad407.add (((ji31)).toNat * 3)) = some (.int .i64 ((rd_T36 t392 (ji31)).f0.f0)) ∧ w'.cell? ⟨(ad407.add (((ji31)).toNat * 3)).block, (ad407.add (((ji31)).toNat * 3)).off + 1, none⟩ = some (.slice A407_1 ((rd_T36 t392 (ji31)).f0.f1).length c407_1) ∧ w'.cell? ⟨(ad407.add (((ji31)).toNat * 3)).block, (ad407.add (((ji31)).toNat * 3)).off + 2, none⟩ = some (.int .i64 ((rd_T36 t392 (ji31)).f1)) ∧ w'.cell? (ad407.add ((x11_2).toNat * 3)) = some (.int .i64 ((rd_T36 t392 x11_2).f0.f0)) ∧ w'.cell? ⟨(ad407.add ((x11_2).toNat * 3)).block, (ad407.add ((x11_2).toNat * 3)).off + 1, none⟩ = some (.slice A408_1 ((rd_T36 t392 x11_2).f0.f1).length c408_1) ∧ w'.cell? ⟨(ad407.add ((x11_2).toNat * 3)).block, (ad407.add ((x11_2).toNat * 3)).off + 2, none⟩ = some (.int .i64 ((rd_T36 t392 x11_2).f1)) ∧ w'.cell? (ad407.add (((ji31)).toNat * 3)) = some (.int .i64 ((rd_T36 t392 (ji31)).f0.f0)) ∧ w'.cell? ⟨(ad407.add (((ji31)).toNat * 3)).block, (ad407.add (((ji31)).toNat * 3)).off + 1, none⟩ = some (.slice A407_1 ((rd_T36 t392 (ji31)).f0.f1).length c407_1) ∧ w'.cell? ⟨(ad407.add (((ji31)).toNat * 3)).block, (ad407.add (((ji31)).toNat * 3)).off + 2, none⟩ = some (.int .i64 ((rd_T36 t392 (ji31)).f1)) ∧ w'.cell? (ad407.add ((x11_2).toNat * 3)) = some (.int .i64 ((rd_T36 t392 x11_2).f0.f0)) ∧ w'.cell? ⟨(ad407.add ((x11_2).toNat * 3)).block, (ad407.add ((x11_2).toNat * 3)).off + 1, none⟩ = some (.slice A408_1 ((rd_T36 t392 x11_2).f0.f1).length c408_1) ∧ w'.cell? ⟨(ad407.add ((x11_2).toNat * 3)).block, (ad407.add ((x11_2).toNat * 3)).off + 2, none⟩ = some (.int .i64 ((rd_T36 t392 x11_2).f1)) ∧ w'.cell? (ad407.add (((ji31)).toNat * 3)) = some (.int .i64 ((rd_T36 t392 (ji31)).f0.f0)) ∧ w'.cell? ⟨(ad407.add (((ji31)).toNat * 3)).block, (ad407.add (((ji31)).toNat * 3)).off + 1, none⟩ = some (.slice A407_1 ((rd_T36 t392 (ji31)).f0.f1).length c407_1) ∧ w'.cell? ⟨(ad407.add (((ji31)).toNat * 3)).block, (ad407.add (((ji31)).toNat * 3)).off + 2, none⟩ = some (.int .i64 ((rd_T36 t392 (ji31)).f1)) ∧ w'.cell? (ad407.add ((x11_2).toNat * 3)) = some (.int .i64 ((rd_T36 t392 x11_2).f0.f0)) ∧ w'.cell? ⟨(ad407.add ((x11_2).toNat * 3)).block, (ad407.add ((x11_2).toNat * 3)).off + 1, none⟩ = some (.slice A408_1 ((rd_T36 t392 x11_2).f0.f1).length c408_1) ∧ w'.cell? ⟨(ad407.add ((x11_2).toNat * 3)).block, (ad407.add ((x11_2).toNat * 3)).off + 2, none⟩ = some (.int .i64 ((rd_T36 t392 x11_2).f1))) (ds := []) #[N5,N5,N5,N5,N5,N5,N5,N5,N5,N5,N5,N5,N5,N5,N5,N5,N5,N5,N5,N5,N5,N5,N5,N5,N5,N5,N5,N5,N5,N5,N5,N5,N5,N5,N5,N5,N5,N5,N5,N5,N5,N5,N5,N5,N5] (by kernel_rfl) rfl rfl ⟨hx407_0, hx407_1, hx407_2, hx408_0, hx408_1, hx408_2, hx409_0, hx409_1, hx409_2, hx410_0, hx410_1, hx410_2, hx411_0, hx411_1, hx411_2, hx412_0, hx412_1, hx412_2⟩ (fun hHeld => ?_); refine with_tabW interlocutorlaw10_RankOrder.tab12 interlocutorlaw10_RankOrder.bits12 (fun HT_ HW_ => ?_)
       generalize wr.drew = w39 at HO_5 HO_6 HB HL407_1 HL408_1 HL409_1 HL410_1 HL411_1 HL412_1 HR407_1 HR408_1 HR409_1 HR410_1 HR411_1 HR412_1 hx407_0 hx407_1 hx407_2 hx408_0 hx408_1 hx408_2 hx409_0 hx409_1 hx409_2 hx410_0 hx410_1 hx410_2 hx411_0 hx411_1 hx411_2 hx412_0 hx412_1 hx412_2 hHeld ⊢
       refine pure_ (i := 0) (N := some 57) (v := ?_) (a' := ?_) #[Y5,N5,N5,N5,N5,N5,N5,N5,N5,N5,N5,N5,N5,N5,N5,N5,N5,N5,N5,N5,N5,N5,N5,N5,N5,N5,N5,N5,N5,N5,N5,N5,N5,N5,N5,N5,N5,N5,N5,N5,N5,N5,N5,N5,N5] rfl rfl (any_of HT_.out (by kernel_rfl)) (fun _ _ _ h => h) (Or.inl ⟨by rfl, ?_⟩) ?_ ?_; rotate_left; (intro w'; go_simp; with_reducible rfl); rotate_left; (simp only [pq5]; rfl)
       refine pure_ (i := 1) (N := some 58) (v := ?_) (a' := ?_) #[Y5,Y5,N5,N5,N5,N5,N5,N5,N5,N5,N5,N5,N5,N5,N5,N5,N5,N5,N5,N5,N5,N5,N5,N5,N5,N5,N5,N5,N5,N5,N5,N5,N5,N5,N5,N5,N5,N5,N5,N5,N5,N5,N5,N5,N5] rfl rfl (any_of HT_.out (by kernel_rfl)) (fun _ _ _ h => h) (Or.inl ⟨by rfl, ?_⟩) ?_ ?_; rotate_left; (intro w'; go_simp; with_reducible rfl); rotate_left; (simp only [pq5]; rfl)
       refine pure_ (i := 2) (N := some 59) (v := ?_) (a' := ?_) #[Y5,Y5,Y5,N5,N5,N5,N5,N5,N5,N5,N5,N5,N5,N5,N5,N5,N5,N5,N5,N5,N5,N5,N5,N5,N5,N5,N5,N5,N5,N5,N5,N5,N5,N5,N5,N5,N5,N5,N5,N5,N5,N5,N5,N5,N5] rfl rfl (any_of HT_.out (by kernel_rfl)) (fun _ _ _ h => h) (Or.inl ⟨by rfl, ?_⟩) ?_ ?_; rotate_left; (intro w'; go_simp; with_reducible rfl); rotate_left; (simp only [pq5]; rfl)
       refine pure_ (i := 3) (N := some 60) (v := ?_) (a' := ?_) #[Y5,Y5,Y5,Y5,N5,N5,N5,N5,N5,N5,N5,N5,N5,N5,N5,N5,N5,N5,N5,N5,N5,N5,N5,N5,N5,N5,N5,N5,N5,N5,N5,N5,N5,N5,N5,N5,N5,N5,N5,N5,N5,N5,N5,N5,N5] rfl rfl (any_of HT_.out (by kernel_rfl)) (fun _ _ _ h => h) (Or.inl ⟨by rfl, ?_⟩) ?_ ?_; rotate_left; (intro w'; go_simp; with_reducible rfl); rotate_left; (simp only [pq5]; rfl)
       refine pure_ (i := 4) (N := some 61) (v := ?_) (a' := ?_) #[Y5,Y5,Y5,Y5,Y5,N5,N5,N5,N5,N5,N5,N5,N5,N5,N5,N5,N5,N5,N5,N5,N5,N5,N5,N5,N5,N5,N5,N5,N5,N5,N5,N5,N5,N5,N5,N5,N5,N5,N5,N5,N5,N5,N5,N5,N5] rfl rfl (any_of HT_.out (by kernel_rfl)) (fun _ _ _ h => h) (Or.inl ⟨by rfl, ?_⟩) ?_ ?_; rotate_left; (intro w'; go_simp; with_reducible rfl); rotate_left; (simp only [pq5]; rfl)
       refine pure_ (i := 5) (N := some 62) (v := ?_) (a' := ?_) #[Y5,Y5,Y5,Y5,Y5,Y5,N5,N5,N5,N5,N5,N5,N5,N5,N5,N5,N5,N5,N5,N5,N5,N5,N5,N5,N5,N5,N5,N5,N5,N5,N5,N5,N5,N5,N5,N5,N5,N5,N5,N5,N5,N5,N5,N5,N5] rfl rfl (any_of HT_.out (by kernel_rfl)) (fun _ _ _ h => h) (Or.inl ⟨by rfl, ?_⟩) ?_ ?_; rotate_left; (intro w'; go_simp; with_reducible rfl); rotate_left; (simp only [pq5]; rfl)
       refine pure_ (i := 6) (N := some 63) (v := ?_) (a' := ?_) #[Y5,Y5,Y5,Y5,Y5,Y5,Y5,N5,N5,N5,N5,N5,N5,N5,N5,N5,N5,N5,N5,N5,N5,N5,N5,N5,N5,N5,N5,N5,N5,N5,N5,N5,N5,N5,N5,N5,N5,N5,N5,N5,N5,N5,N5,N5,N5] rfl rfl (any_of HT_.out (by kernel_rfl)) (fun _ _ _ h => h) (Or.inl ⟨by rfl, ?_⟩) ?_ ?_; rotate_left; (intro w'; go_simp; with_reducible rfl); rotate_left; (simp only [pq5]; rfl)
       refine pure_ (i := 7) (N := some 64) (v := ?_) (a' := ?_) #[Y5,Y5,Y5,Y5,Y5,Y5,Y5,Y5,N5,N5,N5,N5,N5,N5,N5,N5,N5,N5,N5,N5,N5,N5,N5,N5,N5,N5,N5,N5,N5,N5,N5,N5,N5,N5,N5,N5,N5,N5,N5,N5,N5,N5,N5,N5,N5] rfl rfl (any_of HT_.out (by kernel_rfl)) (fun _ _ _ h => h) (Or.inl ⟨by rfl, ?_⟩) ?_ ?_; rotate_left; (intro w'; go_simp; with_reducible rfl); rotate_left; (simp only [pq5]; rfl)
       refine pure_ (i := 9) (N := some 66) (v := ?_) (a' := ?_) #[Y5,Y5,Y5,Y5,Y5,Y5,Y5,Y5,N5,Y5,N5,N5,N5,N5,N5,N5,N5,N5,N5,N5,N5,N5,N5,N5,N5,N5,N5,N5,N5,N5,N5,N5,N5,N5,N5,N5,N5,N5,N5,N5,N5,N5,N5,N5,N5] rfl rfl (any_of HT_.out (by kernel_rfl)) (fun _ _ _ h => h) (Or.inl ⟨by rfl, ?_⟩) ?_ ?_; rotate_left; (intro w'; go_simp; with_reducible rfl); rotate_left; (simp only [pq5]; rfl)
       refine pure_ (i := 10) (N := some 67) (v := ?_) (a' := ?_) #[Y5,Y5,Y5,Y5,Y5,Y5,Y5,Y5,N5,Y5,Y5,N5,N5,N5,N5,N5,N5,N5,N5,N5,N5,N5,N5,N5,N5,N5,N5,N5,N5,N5,N5,N5,N5,N5,N5,N5,N5,N5,N5,N5,N5,N5,N5,N5,N5] rfl rfl (any_of HT_.out (by kernel_rfl)) (fun _ _ _ h => h) (Or.inl ⟨by rfl, ?_⟩) ?_ ?_; rotate_left; (intro w'; go_simp; with_reducible rfl); rotate_left; (simp only [pq5]; rfl)
       refine pure_ (i := 11) (N := some 68) (v := ?_) (a' := ?_) #[Y5,Y5,Y5,Y5,Y5,Y5,Y5,Y5,N5,Y5,Y5,Y5,N5,N5,N5,N5,N5,N5,N5,N5,N5,N5,N5,N5,N5,N5,N5,N5,N5,N5,N5,N5,N5,N5,N5,N5,N5,N5,N5,N5,N5,N5,N5,N5,N5] rfl rfl (any_of HT_.out (by kernel_rfl)) (fun _ _ _ h => h) (Or.inl ⟨by rfl, ?_⟩) ?_ ?_; rotate_left; (intro w'; go_simp; with_reducible rfl); rotate_left; (simp only [pq5]; rfl)
       refine pure_ (i := 12) (N := some 69) (v := ?_) (a' := ?_) #[Y5,Y5,Y5,Y5,Y5,Y5,Y5,Y5,N5,Y5,Y5,Y5,Y5,N5,N5,N5,N5,N5,N5,N5,N5,N5,N5,N5,N5,N5,N5,N5,N5,N5,N5,N5,N5,N5,N5,N5,N5,N5,N5,N5,N5,N5,N5,N5,N5] rfl rfl (any_of HT_.out (by kernel_rfl)) (fun _ _ _ h => h) (Or.inl ⟨by rfl, ?_⟩) ?_ ?_; rotate_left; (intro w'; go_simp; with_reducible rfl); rotate_left; (simp only [pq5]; rfl)
       refine take_ (i := 8) (N := some 65) (v := ?_) (a' := ?_) #[Y5,Y5,Y5,Y5,Y5,Y5,Y5,Y5,Y5,Y5,Y5,Y5,Y5,N5,N5,N5,N5,N5,N5,N5,N5,N5,N5,N5,N5,N5,N5,N5,N5,N5,N5,N5,N5,N5,N5,N5,N5,N5,N5,N5,N5,N5,N5,N5,N5] rfl rfl (take_ofW HT_.out HW_.out (by kernel_rfl)) (fun _ _ _ h => h) (Or.inl ⟨by rfl, ?_⟩) hHeld ?_ ?_
       rotate_left
       · rintro w' ⟨s0, s1, s2, s3, s4, s5, s6, s7, s8, s9, s10, s11, s12, s13, s14, s15, s16, s17⟩
         go_simp
         with_reducible rfl
       rotate_left
       · simp only [pq5]
         rfl
       refine take_ (i := 13) (N := some 70) (v := ?_) (a' := ?_) #[Y5,Y5,Y5,Y5,Y5,Y5,Y5,Y5,Y5,Y5,Y5,Y5,Y5,Y5,N5,N5,N5,N5,N5,N5,N5,N5,N5,N5,N5,N5,N5,N5,N5,N5,N5,N5,N5,N5,N5,N5,N5,N5,N5,N5,N5,N5,N5,N5,N5] rfl rfl (take_ofW HT_.out HW_.out (by kernel_rfl)) (fun _ _ _ h => h) (Or.inl ⟨by rfl, ?_⟩) hHeld ?_ ?_
       rotate_left
       · rintro w' ⟨s0, s1, s2, s3, s4, s5, s6, s7, s8, s9, s10, s11, s12, s13, s14, s15, s16, s17⟩
         go_simp
         with_reducible rfl
       rotate_left
       · simp only [pq5]
         rfl
       refine pure_ (i := 14) (N := some 71) (v := ?_) (a' := ?_) #[Y5,Y5,Y5,Y5,Y5,Y5,Y5,Y5,Y5,Y5,Y5,Y5,Y5,Y5,Y5,N5,N5,N5,N5,N5,N5,N5,N5,N5,N5,N5,N5,N5,N5,N5,N5,N5,N5,N5,N5,N5,N5,N5,N5,N5,N5,N5,N5,N5,N5] rfl rfl (any_of HT_.out (by kernel_rfl)) (fun _ _ _ h => h) (Or.inl ⟨by rfl, ?_⟩) ?_ ?_; rotate_left; (intro w'; go_simp; with_reducible rfl); rotate_left; (simp only [pq5]; rfl)
       refine pure_ (i := 15) (N := some 72) (v := ?_) (a' := ?_) #[Y5,Y5,Y5,Y5,Y5,Y5,Y5,Y5,Y5,Y5,Y5,Y5,Y5,Y5,Y5,Y5,N5,N5,N5,N5,N5,N5,N5,N5,N5,N5,N5,N5,N5,N5,N5,N5,N5,N5,N5,N5,N5,N5,N5,N5,N5,N5,N5,N5,N5] rfl rfl (any_of HT_.out (by kernel_rfl)) (fun _ _ _ h => h) (Or.inl ⟨by rfl, ?_⟩) ?_ ?_; rotate_left; (intro w'; go_simp; with_reducible rfl); rotate_left; (simp only [pq5]; rfl)
       refine pure_ (i := 16) (N := some 73) (v := ?_) (a' := ?_) #[Y5,Y5,Y5,Y5,Y5,Y5,Y5,Y5,Y5,Y5,Y5,Y5,Y5,Y5,Y5,Y5,Y5,N5,N5,N5,N5,N5,N5,N5,N5,N5,N5,N5,N5,N5,N5,N5,N5,N5,N5,N5,N5,N5,N5,N5,N5,N5,N5,N5,N5] rfl rfl (any_of HT_.out (by kernel_rfl)) (fun _ _ _ h => h) (Or.inl ⟨by rfl, ?_⟩) ?_ ?_; rotate_left; (intro w'; go_simp; with_reducible rfl); rotate_left; (simp only [pq5]; rfl)
       refine pure_ (i := 17) (N := some 74) (v := ?_) (a' := ?_) #[Y5,Y5,Y5,Y5,Y5,Y5,Y5,Y5,Y5,Y5,Y5,Y5,Y5,Y5,Y5,Y5,Y5,Y5,N5,N5,N5,N5,N5,N5,N5,N5,N5,N5,N5,N5,N5,N5,N5,N5,N5,N5,N5,N5,N5,N5,N5,N5,N5,N5,N5] rfl rfl (any_of HT_.out (by kernel_rfl)) (fun _ _ _ h => h) (Or.inl ⟨by rfl, ?_⟩) ?_ ?_; rotate_left; (intro w'; go_simp; with_reducible rfl); rotate_left; (simp only [pq5]; rfl)
       refine pure_ (i := 18) (N := some 75) (v := ?_) (a' := ?_) #[Y5,Y5,Y5,Y5,Y5,Y5,Y5,Y5,Y5,Y5,Y5,Y5,Y5,Y5,Y5,Y5,Y5,Y5,Y5,N5,N5,N5,N5,N5,N5,N5,N5,N5,N5,N5,N5,N5,N5,N5,N5,N5,N5,N5,N5,N5,N5,N5,N5,N5,N5] rfl rfl (any_of HT_.out (by kernel_rfl)) (fun _ _ _ h => h) (Or.inl ⟨by rfl, ?_⟩) ?_ ?_; rotate_left; (intro w'; go_simp; with_reducible rfl); rotate_left; (simp only [pq5]; rfl)
       refine pure_ (i := 19) (N := some 76) (v := ?_) (a' := ?_) #[Y5,Y5,Y5,Y5,Y5,Y5,Y5,Y5,Y5,Y5,Y5,Y5,Y5,Y5,Y5,Y5,Y5,Y5,Y5,Y5,N5,N5,N5,N5,N5,N5,N5,N5,N5,N5,N5,N5,N5,N5,N5,N5,N5,N5,N5,N5,N5,N5,N5,N5,N5] rfl rfl (any_of HT_.out (by kernel_rfl)) (fun _ _ _ h => h) (Or.inl ⟨by rfl, ?_⟩) ?_ ?_; rotate_left; (intro w'; go_simp; with_reducible rfl); rotate_left; (simp only [pq5]; rfl)
       refine pure_ (i := 20) (N := some 77) (v := ?_) (a' := ?_) #[Y5,Y5,Y5,Y5,Y5,Y5,Y5,Y5,Y5,Y5,Y5,Y5,Y5,Y5,Y5,Y5,Y5,Y5,Y5,Y5,Y5,N5,N5,N5,N5,N5,N5,N5,N5,N5,N5,N5,N5,N5,N5,N5,N5,N5,N5,N5,N5,N5,N5,N5,N5] rfl rfl (any_of HT_.out (by kernel_rfl)) (fun _ _ _ h => h) (Or.inl ⟨by rfl, ?_⟩) ?_ ?_; rotate_left; (intro w'; go_simp; with_reducible rfl); rotate_left; (simp only [pq5]; rfl)
       refine pure_ (i := 22) (N := some 79) (v := ?_) (a' := ?_) #[Y5,Y5,Y5,Y5,Y5,Y5,Y5,Y5,Y5,Y5,Y5,Y5,Y5,Y5,Y5,Y5,Y5,Y5,Y5,Y5,Y5,N5,Y5,N5,N5,N5,N5,N5,N5,N5,N5,N5,N5,N5,N5,N5,N5,N5,N5,N5,N5,N5,N5,N5,N5] rfl rfl (any_of HT_.out (by kernel_rfl)) (fun _ _ _ h => h) (Or.inl ⟨by rfl, ?_⟩) ?_ ?_; rotate_left; (intro w'; go_simp; with_reducible rfl); rotate_left; (simp only [pq5]; rfl)
       refine pure_ (i := 23) (N := some 80) (v := ?_) (a' := ?_) #[Y5,Y5,Y5,Y5,Y5,Y5,Y5,Y5,Y5,Y5,Y5,Y5,Y5,Y5,Y5,Y5,Y5,Y5,Y5,Y5,Y5,N5,Y5,Y5,N5,N5,N5,N5,N5,N5,N5,N5,N5,N5,N5,N5,N5,N5,N5,N5,N5,N5,N5,N5,N5] rfl rfl (any_of HT_.out (by kernel_rfl)) (fun _ _ _ h => h) (Or.inl ⟨by rfl, ?_⟩) ?_ ?_; rotate_left; (intro w'; go_simp; with_reducible rfl); rotate_left; (simp only [pq5]; rfl)
       refine pure_ (i := 24) (N := some 81) (v := ?_) (a' := ?_) #[Y5,Y5,Y5,Y5,Y5,Y5,Y5,Y5,Y5,Y5,Y5,Y5,Y5,Y5,Y5,Y5,Y5,Y5,Y5,Y5,Y5,N5,Y5,Y5,Y5,N5,N5,N5,N5,N5,N5,N5,N5,N5,N5,N5,N5,N5,N5,N5,N5,N5,N5,N5,N5] rfl rfl (any_of HT_.out (by kernel_rfl)) (fun _ _ _ h => h) (Or.inl ⟨by rfl, ?_⟩) ?_ ?_; rotate_left; (intro w'; go_simp; with_reducible rfl); rotate_left; (simp only [pq5]; rfl)
       refine pure_ (i := 25) (N := some 82) (v := ?_) (a' := ?_) #[Y5,Y5,Y5,Y5,Y5,Y5,Y5,Y5,Y5,Y5,Y5,Y5,Y5,Y5,Y5,Y5,Y5,Y5,Y5,Y5,Y5,N5,Y5,Y5,Y5,Y5,N5,N5,N5,N5,N5,N5,N5,N5,N5,N5,N5,N5,N5,N5,N5,N5,N5,N5,N5] rfl rfl (any_of HT_.out (by kernel_rfl)) (fun _ _ _ h => h) (Or.inl ⟨by rfl, ?_⟩) ?_ ?_; rotate_left; (intro w'; go_simp; with_reducible rfl); rotate_left; (simp only [pq5]; rfl)
       refine take_ (i := 21) (N := some 78) (v := ?_) (a' := ?_) #[Y5,Y5,Y5,Y5,Y5,Y5,Y5,Y5,Y5,Y5,Y5,Y5,Y5,Y5,Y5,Y5,Y5,Y5,Y5,Y5,Y5,Y5,Y5,Y5,Y5,Y5,N5,N5,N5,N5,N5,N5,N5,N5,N5,N5,N5,N5,N5,N5,N5,N5,N5,N5,N5] rfl rfl (take_ofW HT_.out HW_.out (by kernel_rfl)) (fun _ _ _ h => h) (Or.inl ⟨by rfl, ?_⟩) hHeld ?_ ?_
       rotate_left
       · rintro w' ⟨s0, s1, s2, s3, s4, s5, s6, s7, s8, s9, s10, s11, s12, s13, s14, s15, s16, s17⟩
         go_simp
         with_reducible rfl
       rotate_left
       · simp only [pq5]
         rfl
       refine take_ (i := 26) (N := some 83) (v := ?_) (a' := ?_) #[Y5,Y5,Y5,Y5,Y5,Y5,Y5,Y5,Y5,Y5,Y5,Y5,Y5,Y5,Y5,Y5,Y5,Y5,Y5,Y5,Y5,Y5,Y5,Y5,Y5,Y5,Y5,N5,N5,N5,N5,N5,N5,N5,N5,N5,N5,N5,N5,N5,N5,N5,N5,N5,N5] rfl rfl (take_ofW HT_.out HW_.out (by kernel_rfl)) (fun _ _ _ h => h) (Or.inl ⟨by rfl, ?_⟩) hHeld ?_ ?_
       rotate_left
       · rintro w' ⟨s0, s1, s2, s3, s4, s5, s6, s7, s8, s9, s10, s11, s12, s13, s14, s15, s16, s17⟩
         go_simp
         with_reducible rfl
       rotate_left
       · simp only [pq5]
         rfl
       refine pure_ (i := 27) (N := some 84) (v := ?_) (a' := ?_) #[Y5,Y5,Y5,Y5,Y5,Y5,Y5,Y5,Y5,Y5,Y5,Y5,Y5,Y5,Y5,Y5,Y5,Y5,Y5,Y5,Y5,Y5,Y5,Y5,Y5,Y5,Y5,Y5,N5,N5,N5,N5,N5,N5,N5,N5,N5,N5,N5,N5,N5,N5,N5,N5,N5] rfl rfl (any_of HT_.out (by kernel_rfl)) (fun _ _ _ h => h) (Or.inl ⟨by rfl, ?_⟩) ?_ ?_; rotate_left; (intro w'; go_simp; with_reducible rfl); rotate_left; (simp only [pq5]; rfl)
       refine pure_ (i := 28) (N := some 85) (v := ?_) (a' := ?_) #[Y5,Y5,Y5,Y5,Y5,Y5,Y5,Y5,Y5,Y5,Y5,Y5,Y5,Y5,Y5,Y5,Y5,Y5,Y5,Y5,Y5,Y5,Y5,Y5,Y5,Y5,Y5,Y5,Y5,N5,N5,N5,N5,N5,N5,N5,N5,N5,N5,N5,N5,N5,N5,N5,N5] rfl rfl (any_of HT_.out (by kernel_rfl)) (fun _ _ _ h => h) (Or.inl ⟨by rfl, ?_⟩) ?_ ?_; rotate_left; (intro w'; go_simp; with_reducible rfl); rotate_left; (simp only [pq5]; rfl)
       refine pure_ (i := 29) (N := some 86) (v := ?_) (a' := ?_) #[Y5,Y5,Y5,Y5,Y5,Y5,Y5,Y5,Y5,Y5,Y5,Y5,Y5,Y5,Y5,Y5,Y5,Y5,Y5,Y5,Y5,Y5,Y5,Y5,Y5,Y5,Y5,Y5,Y5,Y5,N5,N5,N5,N5,N5,N5,N5,N5,N5,N5,N5,N5,N5,N5,N5] rfl rfl (any_of HT_.out (by kernel_rfl)) (fun _ _ _ h => h) (Or.inl ⟨by rfl, ?_⟩) ?_ ?_; rotate_left; (intro w'; go_simp; with_reducible rfl); rotate_left; (simp only [pq5]; rfl)
       refine pure_ (i := 30) (N := some 87) (v := ?_) (a' := ?_) #[Y5,Y5,Y5,Y5,Y5,Y5,Y5,Y5,Y5,Y5,Y5,Y5,Y5,Y5,Y5,Y5,Y5,Y5,Y5,Y5,Y5,Y5,Y5,Y5,Y5,Y5,Y5,Y5,Y5,Y5,Y5,N5,N5,N5,N5,N5,N5,N5,N5,N5,N5,N5,N5,N5,N5] rfl rfl (any_of HT_.out (by kernel_rfl)) (fun _ _ _ h => h) (Or.inl ⟨by rfl, ?_⟩) ?_ ?_; rotate_left; (intro w'; go_simp; with_reducible rfl); rotate_left; (simp only [pq5]; rfl)
       refine pure_ (i := 31) (N := some 88) (v := ?_) (a' := ?_) #[Y5,Y5,Y5,Y5,Y5,Y5,Y5,Y5,Y5,Y5,Y5,Y5,Y5,Y5,Y5,Y5,Y5,Y5,Y5,Y5,Y5,Y5,Y5,Y5,Y5,Y5,Y5,Y5,Y5,Y5,Y5,Y5,N5,N5,N5,N5,N5,N5,N5,N5,N5,N5,N5,N5,N5] rfl rfl (any_of HT_.out (by kernel_rfl)) (fun _ _ _ h => h) (Or.inl ⟨by rfl, ?_⟩) ?_ ?_; rotate_left; (intro w'; go_simp; with_reducible rfl); rotate_left; (simp only [pq5]; rfl)
       refine pure_ (i := 32) (N := some 89) (v := ?_) (a' := ?_) #[Y5,Y5,Y5,Y5,Y5,Y5,Y5,Y5,Y5,Y5,Y5,Y5,Y5,Y5,Y5,Y5,Y5,Y5,Y5,Y5,Y5,Y5,Y5,Y5,Y5,Y5,Y5,Y5,Y5,Y5,Y5,Y5,Y5,N5,N5,N5,N5,N5,N5,N5,N5,N5,N5,N5,N5] rfl rfl (any_of HT_.out (by kernel_rfl)) (fun _ _ _ h => h) (Or.inl ⟨by rfl, ?_⟩) ?_ ?_; rotate_left; (intro w'; go_simp; with_reducible rfl); rotate_left; (simp only [pq5]; rfl)
       refine pure_ (i := 33) (N := some 90) (v := ?_) (a' := ?_) #[Y5,Y5,Y5,Y5,Y5,Y5,Y5,Y5,Y5,Y5,Y5,Y5,Y5,Y5,Y5,Y5,Y5,Y5,Y5,Y5,Y5,Y5,Y5,Y5,Y5,Y5,Y5,Y5,Y5,Y5,Y5,Y5,Y5,Y5,N5,N5,N5,N5,N5,N5,N5,N5,N5,N5,N5] rfl rfl (any_of HT_.out (by kernel_rfl)) (fun _ _ _ h => h) (Or.inl ⟨by rfl, ?_⟩) ?_ ?_; rotate_left; (intro w'; go_simp; with_reducible rfl); rotate_left; (simp only [pq5]; rfl)
       refine pure_ (i := 35) (N := some 92) (v := ?_) (a' := ?_) #[Y5,Y5,Y5,Y5,Y5,Y5,Y5,Y5,Y5,Y5,Y5,Y5,Y5,Y5,Y5,Y5,Y5,Y5,Y5,Y5,Y5,Y5,Y5,Y5,Y5,Y5,Y5,Y5,Y5,Y5,Y5,Y5,Y5,Y5,N5,Y5,N5,N5,N5,N5,N5,N5,N5,N5,N5] rfl rfl (any_of HT_.out (by kernel_rfl)) (fun _ _ _ h => h) (Or.inl ⟨by rfl, ?_⟩) ?_ ?_; rotate_left; (intro w'; go_simp; with_reducible rfl); rotate_left; (simp only [pq5]; rfl)
       refine pure_ (i := 36) (N := some 93) (v := ?_) (a' := ?_) #[Y5,Y5,Y5,Y5,Y5,Y5,Y5,Y5,Y5,Y5,Y5,Y5,Y5,Y5,Y5,Y5,Y5,Y5,Y5,Y5,Y5,Y5,Y5,Y5,Y5,Y5,Y5,Y5,Y5,Y5,Y5,Y5,Y5,Y5,N5,Y5,Y5,N5,N5,N5,N5,N5,N5,N5,N5] rfl rfl (any_of HT_.out (by kernel_rfl)) (fun _ _ _ h => h) (Or.inl ⟨by rfl, ?_⟩) ?_ ?_; rotate_left; (intro w'; go_simp; with_reducible rfl); rotate_left; (simp only [pq5]; rfl)
       refine pure_ (i := 37) (N := some 94) (v := ?_) (a' := ?_) #[Y5,Y5,Y5,Y5,Y5,Y5,Y5,Y5,Y5,Y5,Y5,Y5,Y5,Y5,Y5,Y5,Y5,Y5,Y5,Y5,Y5,Y5,Y5,Y5,Y5,Y5,Y5,Y5,Y5,Y5,Y5,Y5,Y5,Y5,N5,Y5,Y5,Y5,N5,N5,N5,N5,N5,N5,N5] rfl rfl (any_of HT_.out (by kernel_rfl)) (fun _ _ _ h => h) (Or.inl ⟨by rfl, ?_⟩) ?_ ?_; rotate_left; (intro w'; go_simp; with_reducible rfl); rotate_left; (simp only [pq5]; rfl)
       refine pure_ (i := 38) (N := some 95) (v := ?_) (a' := ?_) #[Y5,Y5,Y5,Y5,Y5,Y5,Y5,Y5,Y5,Y5,Y5,Y5,Y5,Y5,Y5,Y5,Y5,Y5,Y5,Y5,Y5,Y5,Y5,Y5,Y5,Y5,Y5,Y5,Y5,Y5,Y5,Y5,Y5,Y5,N5,Y5,Y5,Y5,Y5,N5,N5,N5,N5,N5,N5] rfl rfl (any_of HT_.out (by kernel_rfl)) (fun _ _ _ h => h) (Or.inl ⟨by rfl, ?_⟩) ?_ ?_; rotate_left; (intro w'; go_simp; with_reducible rfl); rotate_left; (simp only [pq5]; rfl)
       refine take_ (i := 34) (N := some 91) (v := ?_) (a' := ?_) #[Y5,Y5,Y5,Y5,Y5,Y5,Y5,Y5,Y5,Y5,Y5,Y5,Y5,Y5,Y5,Y5,Y5,Y5,Y5,Y5,Y5,Y5,Y5,Y5,Y5,Y5,Y5,Y5,Y5,Y5,Y5,Y5,Y5,Y5,Y5,Y5,Y5,Y5,Y5,N5,N5,N5,N5,N5,N5] rfl rfl (take_ofW HT_.out HW_.out (by kernel_rfl)) (fun _ _ _ h => h) (Or.inl ⟨by rfl, ?_⟩) hHeld ?_ ?_
       rotate_left
       · rintro w' ⟨s0, s1, s2, s3, s4, s5, s6, s7, s8, s9, s10, s11, s12, s13, s14, s15, s16, s17⟩
         go_simp
         with_reducible rfl
       rotate_left
       · simp only [pq5]
         rfl
       refine take_ (i := 39) (N := some 96) (v := ?_) (a' := ?_) #[Y5,Y5,Y5,Y5,Y5,Y5,Y5,Y5,Y5,Y5,Y5,Y5,Y5,Y5,Y5,Y5,Y5,Y5,Y5,Y5,Y5,Y5,Y5,Y5,Y5,Y5,Y5,Y5,Y5,Y5,Y5,Y5,Y5,Y5,Y5,Y5,Y5,Y5,Y5,Y5,N5,N5,N5,N5,N5] rfl rfl (take_ofW HT_.out HW_.out (by kernel_rfl)) (fun _ _ _ h => h) (Or.inl ⟨by rfl, ?_⟩) hHeld ?_ ?_
       rotate_left
       · rintro w' ⟨s0, s1, s2, s3, s4, s5, s6, s7, s8, s9, s10, s11, s12, s13, s14, s15, s16, s17⟩
         go_simp
         with_reducible rfl
       rotate_left
       · simp only [pq5]
         rfl
       refine one_ (i := 40) (N := some 97) #[Y5,Y5,Y5,Y5,Y5,Y5,Y5,Y5,Y5,Y5,Y5,Y5,Y5,Y5,Y5,Y5,Y5,Y5,Y5,Y5,Y5,Y5,Y5,Y5,Y5,Y5,Y5,Y5,Y5,Y5,Y5,Y5,Y5,Y5,Y5,Y5,Y5,Y5,Y5,Y5,Y5,N5,N5,N5,N5] rfl rfl (one_of HT_.out (by kernel_rfl)) (by decide) (fun K hK => ?_)
       refine goes_ Tryd.func15 (by kernel_rfl) rfl #[.agg #[.int .i64 ((rd_T36 t392 (ji31)).f0.f0), .slice A407_1 ((rd_T36 t392 (ji31)).f0.f1).length c407_1], .agg #[.int .i64 ((rd_T36 t392 x11_2).f0.f0), .slice A408_1 ((rd_T36 t392 x11_2).f0.f1).length c408_1]] (by rfl) rfl rfl (by (try simp only [List.map_toArray, List.map_cons, List.map_nil]); first | done | (simp only [hji31]; rfl) | rfl | (simp only [List.length_drop, List.length_take]; rfl)) ?_
       with_reducible refine (interlocutorref10_Cmp.calls k2 ((rd_T36 t392 (ji31)).f0.f0) _ _ ((rd_T36 t392 (ji31)).f0.f1) ((rd_T36 t392 x11_2).f0.f0) _ _ ((rd_T36 t392 x11_2).f0.f1) t413 _ ?side1 ?side2 ?side3 ?side4 A38.out).mono ?_
       (case side1 => repeat (first | exact (by repeat (first | (with_reducible exact HR411_1.out) | (with_reducible refine Kd.C_alloc ?_ _) | (with_reducible refine Kd.C_drewN ?_ _) | (with_reducible refine Kd.C_drew ?_) | exact HR411_1.out)) | (with_reducible refine Kd.C_alloc ?_ _) | (with_reducible refine Kd.C_drewN ?_ _) | (with_reducible refine Kd.C_drew ?_)))
       (case side2 => exact HC411_1.out)
       (case side3 => repeat (first | exact (by repeat (first | (with_reducible exact HR412_1.out) | (with_reducible refine Kd.C_alloc ?_ _) | (with_reducible refine Kd.C_drewN ?_ _) | (with_reducible refine Kd.C_drew ?_) | exact HR412_1.out)) | (with_reducible refine Kd.C_alloc ?_ _) | (with_reducible refine Kd.C_drewN ?_ _) | (with_reducible refine Kd.C_drew ?_)))
       (case side4 => exact HC412_1.out)
       rintro e w40 ⟨rfl, hb⟩
       have HS0_ := (hb.cell (World.block_lt_of_cell? _ _ (hHeld.1))).trans (hHeld.1)
       have HS1_ := (hb.cell (World.block_lt_of_cell? _ _ (hHeld.2.1))).trans (hHeld.2.1)
       have HS2_ := (hb.cell (World.block_lt_of_cell? _ _ (hHeld.2.2.1))).trans (hHeld.2.2.1)
       have HS3_ := (hb.cell (World.block_lt_of_cell? _ _ (hHeld.2.2.2.1))).trans (hHeld.2.2.2.1)
       have HS4_ := (hb.cell (World.block_lt_of_cell? _ _ (hHeld.2.2.2.2.1))).trans (hHeld.2.2.2.2.1)
       have HS5_ := (hb.cell (World.block_lt_of_cell? _ _ (hHeld.2.2.2.2.2.1))).trans (hHeld.2.2.2.2.2.1)
       have HS6_ := (hb.cell (World.block_lt_of_cell? _ _ (hHeld.2.2.2.2.2.2.1))).trans (hHeld.2.2.2.2.2.2.1)
       have HS7_ := (hb.cell (World.block_lt_of_cell? _ _ (hHeld.2.2.2.2.2.2.2.1))).trans (hHeld.2.2.2.2.2.2.2.1)
       have HS8_ := (hb.cell (World.block_lt_of_cell? _ _ (hHeld.2.2.2.2.2.2.2.2.1))).trans (hHeld.2.2.2.2.2.2.2.2.1)
       have HS9_ := (hb.cell (World.block_lt_of_cell? _ _ (hHeld.2.2.2.2.2.2.2.2.2.1))).trans (hHeld.2.2.2.2.2.2.2.2.2.1)
       have HS10_ := (hb.cell (World.block_lt_of_cell? _ _ (hHeld.2.2.2.2.2.2.2.2.2.2.1))).trans (hHeld.2.2.2.2.2.2.2.2.2.2.1)
       have HS11_ := (hb.cell (World.block_lt_of_cell? _ _ (hHeld.2.2.2.2.2.2.2.2.2.2.2.1))).trans (hHeld.2.2.2.2.2.2.2.2.2.2.2.1)
       have HS12_ := (hb.cell (World.block_lt_of_cell? _ _ (hHeld.2.2.2.2.2.2.2.2.2.2.2.2.1))).trans (hHeld.2.2.2.2.2.2.2.2.2.2.2.2.1)
       have HS13_ := (hb.cell (World.block_lt_of_cell? _ _ (hHeld.2.2.2.2.2.2.2.2.2.2.2.2.2.1))).trans (hHeld.2.2.2.2.2.2.2.2.2.2.2.2.2.1)
       have HS14_ := (hb.cell (World.block_lt_of_cell? _ _ (hHeld.2.2.2.2.2.2.2.2.2.2.2.2.2.2.1))).trans (hHeld.2.2.2.2.2.2.2.2.2.2.2.2.2.2.1)
       have HS15_ := (hb.cell (World.block_lt_of_cell? _ _ (hHeld.2.2.2.2.2.2.2.2.2.2.2.2.2.2.2.1))).trans (hHeld.2.2.2.2.2.2.2.2.2.2.2.2.2.2.2.1)
       have HS16_ := (hb.cell (World.block_lt_of_cell? _ _ (hHeld.2.2.2.2.2.2.2.2.2.2.2.2.2.2.2.2.1))).trans (hHeld.2.2.2.2.2.2.2.2.2.2.2.2.2.2.2.2.1)
       have HS17_ := (hb.cell (World.block_lt_of_cell? _ _ (hHeld.2.2.2.2.2.2.2.2.2.2.2.2.2.2.2.2.2))).trans (hHeld.2.2.2.2.2.2.2.2.2.2.2.2.2.2.2.2.2)
       refine ⟨_, rfl, ?_⟩
       have n0_ := Aside0.mk (Kd.S_below (by (with_reducible repeat (first | apply Kd.S_alloc | apply Kd.S_drewN | apply Kd.S_drew)); exact HO_5.out) hb)
       have n1_ := Aside0.mk (Kd.V_below (by (with_reducible repeat (first | apply Kd.V_alloc | apply Kd.V_drewN | apply Kd.V_drew)); exact HO_6.out) hb)
       have n2_ := Aside0.mk (Kd.V_below (by (with_reducible repeat (first | apply Kd.V_alloc | apply Kd.V_drewN | apply Kd.V_drew)); exact HL407_1.out) hb)
       have n3_ := Aside0.mk (Kd.V_below (by (with_reducible repeat (first | apply Kd.V_alloc | apply Kd.V_drewN | apply Kd.V_drew)); exact HL408_1.out) hb)
       have n4_ := Aside0.mk (Kd.V_below (by (with_reducible repeat (first | apply Kd.V_alloc | apply Kd.V_drewN | apply Kd.V_drew)); exact HL409_1.out) hb)
       have n5_ := Aside0.mk (Kd.V_below (by (with_reducible repeat (first | apply Kd.V_alloc | apply Kd.V_drewN | apply Kd.V_drew)); exact HL410_1.out) hb)
       have n6_ := Aside0.mk (Kd.V_below (by (with_reducible repeat (first | apply Kd.V_alloc | apply Kd.V_drewN | apply Kd.V_drew)); exact HL411_1.out) hb)
       have n7_ := Aside0.mk (Kd.V_below (by (with_reducible repeat (first | apply Kd.V_alloc | apply Kd.V_drewN | apply Kd.V_drew)); exact HL412_1.out) hb)
       have n8_ := Aside0.mk (Kd.C_below (by repeat (first | (with_reducible exact HR407_1.out) | (with_reducible refine Kd.C_alloc ?_ _) | (with_reducible refine Kd.C_drewN ?_ _) | (with_reducible refine Kd.C_drew ?_) | exact HR407_1.out)) hb)
       have n9_ := Aside0.mk (Kd.C_below (by repeat (first | (with_reducible exact HR408_1.out) | (with_reducible refine Kd.C_alloc ?_ _) | (with_reducible refine Kd.C_drewN ?_ _) | (with_reducible refine Kd.C_drew ?_) | exact HR408_1.out)) hb)
       have n10_ := Aside0.mk (Kd.C_below (by repeat (first | (with_reducible exact HR409_1.out) | (with_reducible refine Kd.C_alloc ?_ _) | (with_reducible refine Kd.C_drewN ?_ _) | (with_reducible refine Kd.C_drew ?_) | exact HR409_1.out)) hb)
       have n11_ := Aside0.mk (Kd.C_below (by repeat (first | (with_reducible exact HR410_1.out) | (with_reducible refine Kd.C_alloc ?_ _) | (with_reducible refine Kd.C_drewN ?_ _) | (with_reducible refine Kd.C_drew ?_) | exact HR410_1.out)) hb)
       have n12_ := Aside0.mk (Kd.C_below (by repeat (first | (with_reducible exact HR411_1.out) | (with_reducible refine Kd.C_alloc ?_ _) | (with_reducible refine Kd.C_drewN ?_ _) | (with_reducible refine Kd.C_drew ?_) | exact HR411_1.out)) hb)
       have n13_ := Aside0.mk (Kd.C_below (by repeat (first | (with_reducible exact HR412_1.out) | (with_reducible refine Kd.C_alloc ?_ _) | (with_reducible refine Kd.C_drewN ?_ _) | (with_reducible refine Kd.C_drew ?_) | exact HR412_1.out)) hb)
       have n14_ := Aside0.mk (below_step (by repeat (first | (with_reducible first | exact HB.out | apply below_alloc | apply pw_below_drewN | apply below_drew1) | exact HB.out)) hb)
       clear HO_5
       clear HO_6
       clear HL407_1
       clear HL408_1
       clear HL409_1
       clear HL410_1
       clear HL411_1
       clear HL412_1
       clear HR407_1
       clear HR408_1
       clear HR409_1
       clear HR410_1
       clear HR411_1
       clear HR412_1
       clear HB
       have HO_5 := n0_
       have HO_6 := n1_
       have HL407_1 := n2_
       have HL408_1 := n3_
       have HL409_1 := n4_
       have HL410_1 := n5_
       have HL411_1 := n6_
       have HL412_1 := n7_
       have HR407_1 := n8_
       have HR408_1 := n9_
       have HR409_1 := n10_
       have HR410_1 := n11_
       have HR411_1 := n12_
       have HR412_1 := n13_
       have HB := n14_
       clear n0_ n1_ n2_ n3_ n4_ n5_ n6_ n7_ n8_ n9_ n10_ n11_ n12_ n13_ n14_
       (try clear hb)
       (try clear hb2)
       (try clear hk)
       (try clear hi)
       refine hK.out _ _ ⟨HS0_, HS1_, HS2_, HS3_, HS4_, HS5_, HS6_, HS7_, HS8_, HS9_, HS10_, HS11_, HS12_, HS13_, HS14_, HS15_, HS16_, HS17_⟩ (fun hHeld => ?_)
       clear hK K
       refine norm_ (a' := ?_) ?_ ?_
       rotate_left
       · show Act.put _ (some 97) _ = _
         simp only [pq5]
         rfl
       refine pure_ (i := 41) (N := some 98) (v := ?_) (a' := ?_) #[Y5,Y5,Y5,Y5,Y5,Y5,Y5,Y5,Y5,Y5,Y5,Y5,Y5,Y5,Y5,Y5,Y5,Y5,Y5,Y5,Y5,Y5,Y5,Y5,Y5,Y5,Y5,Y5,Y5,Y5,Y5,Y5,Y5,Y5,Y5,Y5,Y5,Y5,Y5,Y5,Y5,Y5,N5,N5,N5] rfl rfl (any_of HT_.out (by kernel_rfl)) (fun _ _ _ h => h) (Or.inl ⟨by rfl, ?_⟩) ?_ ?_; rotate_left; (intro w'; go_simp; with_reducible rfl); rotate_left; (simp only [pq5]; rfl)
       refine pure_ (i := 42) (N := some 99) (v := ?_) (a' := ?_) #[Y5,Y5,Y5,Y5,Y5,Y5,Y5,Y5,Y5,Y5,Y5,Y5,Y5,Y5,Y5,Y5,Y5,Y5,Y5,Y5,Y5,Y5,Y5,Y5,Y5,Y5,Y5,Y5,Y5,Y5,Y5,Y5,Y5,Y5,Y5,Y5,Y5,Y5,Y5,Y5,Y5,Y5,Y5,N5,N5] rfl rfl (any_of HT_.out (by kernel_rfl)) (fun _ _ _ h => h) (Or.inl ⟨by rfl, ?_⟩) ?_ ?_; rotate_left; (intro w'; go_simp; with_reducible rfl); rotate_left; (simp only [pq5]; rfl)
       refine pure_ (i := 43) (N := some 100) (v := ?_) (a' := ?_) #[Y5,Y5,Y5,Y5,Y5,Y5,Y5,Y5,Y5,Y5,Y5,Y5,Y5,Y5,Y5,Y5,Y5,Y5,Y5,Y5,Y5,Y5,Y5,Y5,Y5,Y5,Y5,Y5,Y5,Y5,Y5,Y5,Y5,Y5,Y5,Y5,Y5,Y5,Y5,Y5,Y5,Y5,Y5,Y5,N5] rfl rfl (any_of HT_.out (by kernel_rfl)) (fun _ _ _ h => h) (Or.inl ⟨by rfl, ?_⟩) ?_ ?_; rotate_left; (intro w'; go_simp; with_reducible rfl); rotate_left; (simp only [pq5]; rfl)
       refine pure_ (i := 44) (N := some 101) (v := ?_) (a' := ?_) #[Y5,Y5,Y5,Y5,Y5,Y5,Y5,Y5,Y5,Y5,Y5,Y5,Y5,Y5,Y5,Y5,Y5,Y5,Y5,Y5,Y5,Y5,Y5,Y5,Y5,Y5,Y5,Y5,Y5,Y5,Y5,Y5,Y5,Y5,Y5,Y5,Y5,Y5,Y5,Y5,Y5,Y5,Y5,Y5,Y5] rfl rfl (any_of HT_.out (by kernel_rfl)) (fun _ _ _ h => h) (Or.inl ⟨by rfl, ?_⟩) ?_ ?_; rotate_left; (intro w'; go_simp; with_reducible rfl); rotate_left; (simp only [pq5]; rfl)
       refine done_ (done_of HT_.out (by kernel_rfl)) ?_
       try go_wp2
       go_meet
       case rel => exact ⟨_, (decide (t413 ≥ 0)), (by first | rfl | (simp; done) | (simp [*]; done)), H', ⟨by have := HJ8.out; have := HK2.out; first | omega | exact Nat.le_refl _⟩, ⟨by (with_reducible repeat (first | apply Kd.S_alloc | apply Kd.S_drewN | apply Kd.S_drew)); exact HO_5.out⟩, ⟨by (with_reducible repeat (first | apply Kd.V_alloc | apply Kd.V_drewN | apply Kd.V_drew)); exact HO_6.out⟩, ⟨by repeat (first | (with_reducible first | exact HB.out | apply below_alloc | apply pw_below_drewN | apply below_drew1) | exact HB.out)⟩⟩
      case rest =>
       clear HC28
       try clear p2
       try clear c3
       try clear c4
       try clear p4
       try clear q4
       try clear hx4
       try clear c30
       try clear c30b0
       try clear c32
       try clear c33
       try clear c34
       try clear c40
       try clear p40
       try clear q40
       try clear hx40
       try clear c41
       try clear p41
       try clear q41
       try clear hx41
       try clear hx407_0
       try clear hx407_1
       try clear hx407_2
       try clear hx408_0
       try clear hx408_1
       try clear hx408_2
       try clear hx409_0
       try clear hx409_1
       try clear hx409_2
       try clear hx410_0
       try clear hx410_1
       try clear hx410_2
       try clear p408
       try clear p409
       try clear p410
       try clear q408
       try clear q409
       try clear q410
       obtain ⟨kq, x101_27, rfl, HA, HJ27, HO_5, HO_6, HB⟩ := hcut
       cases kq with
       | zero => exact absurd HA.out (by simp [interlocutorlaw10_RankOrder.j2])
       | succ kj27 =>
        have H := HA.out
        clear HA
        simp only [interlocutorlaw10_RankOrder.j2] at H
        by_cases c43 : x101_27 = true
        · subst c43
          have H1 : (some false) = some r := by rw [if_pos rfl] at H; exact H
          clear H
          have H := H1
          clear H1
          obtain rfl := Option.some.inj H
          go_wp2
          go_ret
          exact ⟨by first | rfl | (simp [errW_none, errW_some] <;> rfl) | (simp [*, errW_none, errW_some] <;> rfl), by repeat (first | (with_reducible first | exact HB.out | apply below_alloc | apply pw_below_drewN | apply below_drew1) | exact HB.out)⟩
        replace c43 := Bool.eq_false_iff.mpr c43
        subst c43
        have H1 : (interlocutorlaw10_RankOrder.l1 kj27 t389 t392 x11_2 false 0) = some r := by rw [if_neg (show ¬ (false = true) by decide)] at H; exact H
        clear H
        have H := H1
        clear H1
        have H' := Aside0.mk H
        clear H
        go_wp2
        go_loopg [12, 13] kj27 (fun kq v12 v13 w' => ∃ (x12_4 : Bool) (x13_4 : Int), v12 = .bool x12_4 ∧ v13 = .int .i64 x13_4 ∧ Aside0 (interlocutorlaw10_RankOrder.l1 kq t389 t392 x11_2 x12_4 x13_4 = some r) ∧ Aside0 (kq ≤ kj27) ∧ Aside0 (Kd.S k36 36 w' w.heap.size (fun _ => True) (.slice Ao12 t389.length co12) t389) ∧ Aside0 (Kd.V k36 36 w' w.heap.size (fun k_ => some k_ ≠ ((.slice Ao12 t389.length co12) : Value).ownBlock) (.slice Ao29 t392.length co29) t392) ∧ Aside0 (Below w.heap.size w w'))
        case atStart => exact ⟨(false), (0), (by first | rfl | (simp; done) | (simp [*]; done)), (by first | rfl | (simp; done) | (simp [*]; done)), H', ⟨Nat.le_refl _⟩, ⟨by (with_reducible repeat (first | apply Kd.S_alloc | apply Kd.S_drewN | apply Kd.S_drew)); exact HO_5.out⟩, ⟨by (with_reducible repeat (first | apply Kd.V_alloc | apply Kd.V_drewN | apply Kd.V_drew)); exact HO_6.out⟩, ⟨by repeat (first | (with_reducible first | exact HB.out | apply below_alloc | apply pw_below_drewN | apply below_drew1) | exact HB.out)⟩⟩
        case round =>
         clear H'
         try clear p2
         try clear c3
         try clear c4
         try clear p4
         try clear q4
         try clear hx4
         try clear c30
         try clear c30b0
         try clear c32
         try clear c33
         try clear c34
         try clear c40
         try clear p40
         try clear q40
         try clear hx40
         try clear c41
         try clear p41
         try clear q41
         try clear hx41
         try clear c43
         try clear hx407_0
         try clear hx407_1
         try clear hx407_2
         try clear hx408_0
         try clear hx408_1
         try clear hx408_2
         try clear hx409_0
         try clear hx409_1
         try clear hx409_2
         try clear hx410_0
         try clear hx410_1
         try clear hx410_2
         try clear p2
         try clear p4
         try clear p40
         try clear p408
         try clear p409
         try clear p41
         try clear p410
         try clear q4
         try clear q40
         try clear q408
         try clear q409
         try clear q41
         try clear q410
         obtain ⟨x12_4, x13_4, rfl, rfl, HA, HK4, HO_5, HO_6, HB⟩ := hrel
         cases gk with
         | zero => exact absurd HA.out (by simp [interlocutorlaw10_RankOrder.l1])
         | succ k4 =>
          have H := HA.out
          clear HA
          simp only [interlocutorlaw10_RankOrder.l1] at H
          by_cases c44 : x13_4 < (t389.length : Int)
          rotate_left
          · rw [if_neg c44] at H
            have c44b0 : decide (x13_4 < (t389.length : Int)) = false := decide_eq_false c44
            clear c44
            by_cases c71 : x12_4 = true
            rotate_left
            · replace c71 := Bool.eq_false_iff.mpr c71
              subst c71
              have H1 : (some false) = some r := by rw [if_neg (show ¬ (false = true) by decide)] at H; exact H
              clear H
              have H := H1
              clear H1
              obtain rfl := Option.some.inj H
              go_wp2
              go_ret
              exact ⟨by first | rfl | (simp [errW_none, errW_some] <;> rfl) | (simp [*, errW_none, errW_some] <;> rfl), by repeat (first | (with_reducible first | exact HB.out | apply below_alloc | apply pw_below_drewN | apply below_drew1) | exact HB.out)⟩
            subst c71
            have H1 : (interlocutorlaw10_RankOrder.l0 k4 t389 t392 (wrap64 (x11_2 + 1))) = some r := by rw [if_pos rfl] at H; exact H
            clear H
            have H := H1
            clear H1
            have H' := Aside0.mk H
            clear H
            go_wp2
            go_roundg k4
            case measure => have := HJ8.out; have := HK2.out; have := HJ27.out; have := HK4.out; omega
            case rel => exact ⟨(wrap64 (x11_2 + 1)), (by first | rfl | (simp; done) | (simp [*]; done)), H', ⟨by have := HJ8.out; have := HK2.out; have := HJ27.out; have := HK4.out; omega⟩, ⟨by (with_reducible repeat (first | apply Kd.S_alloc | apply Kd.S_drewN | apply Kd.S_drew)); exact HO_5.out⟩, ⟨by (with_reducible repeat (first | apply Kd.V_alloc | apply Kd.V_drewN | apply Kd.V_drew)); exact HO_6.out⟩, ⟨by repeat (first | (with_reducible first | exact HB.out | apply below_alloc | apply pw_below_drewN | apply below_drew1) | exact HB.out)⟩⟩
          rw [if_pos c44] at H
          have c44b0 : decide (x13_4 < (t389.length : Int)) = true := decide_eq_true c44
          clear c44
          by_cases c45 : 0 ≤ x13_4
          rotate_left
          · rw [if_neg c45] at H
            exact absurd H (by simp)
          rw [if_pos c45] at H
          have c45b0 : decide (0 ≤ x13_4) = true := decide_eq_true c45
          clear c45
          by_cases c46 : 0 ≤ x11_2
          rotate_left
          · rw [if_neg c46] at H
            exact absurd H (by simp)
          rw [if_pos c46] at H
          have c46b0 : decide (0 ≤ x11_2) = true := decide_eq_true c46
          clear c46
          by_cases c47 : x11_2 < (t392.length : Int)
          rotate_left
          · rw [if_neg c47] at H
            exact absurd H (by simp)
          rw [if_pos c47] at H
          have c47b0 : decide (x11_2 < (t392.length : Int)) = true := decide_eq_true c47
          clear c47
          replace H := Option.bind_eq_some_iff.mp H
          obtain ⟨t416, A480, H⟩ := H
          replace H : (if t416 = 0 then (if x12_4 = true then (if ((rd_T36 t389 x13_4).f1) < ((rd_T36 t392 x11_2).f1) then (some false) else (interlocutorlaw10_RankOrder.l1 k4 t389 t392 x11_2 true (wrap64 (x13_4 + 1)))) else (if ((rd_T36 t389 x13_4).f1) < ((rd_T36 t392 x11_2).f1) then (some false) else (interlocutorlaw10_RankOrder.l1 k4 t389 t392 x11_2 (((rd_T36 t389 x13_4).f1) == ((rd_T36 t392 x11_2).f1)) (wrap64 (x13_4 + 1))))) else (interlocutorlaw10_RankOrder.l1 k4 t389 t392 x11_2 x12_4 (wrap64 (x13_4 + 1)))) = some r := H
          have A48 := Aside0.mk A480
          clear A480
          by_cases c49 : t416 = 0
          rotate_left
          · rw [if_neg c49] at H
            have c49b0 : (t416 == 0) = false := beq_eq_false_iff_ne.mpr c49
            have c49b1 : (t416 != 0) = true := bne_iff_ne.mpr c49
            have H' := Aside0.mk H
            clear H
            try go_wp2
            have n0_ := Aside0.mk (Kd.S_drew HO_5.out)
            have n1_ := Aside0.mk (Kd.V_drew HO_6.out)
            have n2_ := Aside0.mk (below_drew1 HB.out)
            clear HO_5
            clear HO_6
            clear HB
            have HO_5 := n0_
            have HO_6 := n1_
            have HB := n2_
            clear n0_ n1_ n2_
            have p414 : 0 ≤ (x13_4 : Int) := of_decide_eq_true (by first | (with_reducible assumption) | assumption)
            have q414 : x13_4 < (t389.length : Int) := of_decide_eq_true (by first | (with_reducible assumption) | assumption)
            obtain ⟨ad414, A414_1, c414_1, e414, hx414_0, hx414_1, hx414_2, hl414_1, hi414_1⟩ := at_T36 (Kd.S_reads' HO_5.out).2.2 x13_4 p414 q414
            cases e414
            obtain ⟨ce414, hce414, hMe414, hcc414⟩ := Kd.S_get HO_5.out z36 x13_4 p414 (by first | exact q414 | exact of_decide_eq_true (by first | (with_reducible assumption) | assumption) | (have e_ := (Kd.S_reads' HO_5.out).1; omega))
            obtain ⟨ve414_1, rfl, ge414_1⟩ := k36_openM hMe414
            have hv414_1 := hcc414 1 _ rfl
            rw [add_field _ _ 1 (by omega)] at hv414_1
            replace hv414_1 := Option.some.inj (hv414_1.symm.trans hx414_1)
            rw [hv414_1] at ge414_1
            have HL414_1 := Aside0.mk (show Kd.R (Kd.int .i64) 3 _ _ _ _ ((rd_T36 t389 x13_4).f0.f1) from ge414_1)
            clear hv414_1 ge414_1
            clear hcc414 hce414
            have HR414_1 := Aside0.mk hi414_1
            have HC414_1 := Aside0.mk hl414_1
            clear hi414_1 hl414_1
            replace p414 := eq_true p414
            replace q414 := eq_true q414
            have p415 : 0 ≤ (x11_2 : Int) := of_decide_eq_true (by first | (with_reducible assumption) | assumption)
            have q415 : x11_2 < (t392.length : Int) := of_decide_eq_true (by first | (with_reducible assumption) | assumption)
            obtain ⟨ad415, A415_1, c415_1, e415, hx415_0, hx415_1, hx415_2, hl415_1, hi415_1⟩ := at_T36 (Kd.V_reads' HO_6.out).2.2 x11_2 p415 q415
            cases e415
            obtain ⟨ce415, hce415, hMe415, hcc415⟩ := Kd.V_get HO_6.out z36 x11_2 p415 (by first | exact q415 | exact of_decide_eq_true (by first | (with_reducible assumption) | assumption) | (have e_ := (Kd.V_reads' HO_6.out).1; omega))
            obtain ⟨ua415_1, uc415_1, rfl, ul415_1, ge415_1⟩ := k36_openF hMe415
            have hv415_1 := hcc415 1 _ rfl
            rw [add_field _ _ 1 (by omega)] at hv415_1
            replace hv415_1 := Option.some.inj (hv415_1.symm.trans hx415_1)
            injection hv415_1 with hva_ hvn_ hvc_
            rw [hva_] at ge415_1
            rw [hvc_] at ul415_1
            have HL415_1 := Aside0.mk (show Kd.V (Kd.int .i64) 3 _ w.heap.size _ _ ((rd_T36 t392 x11_2).f0.f1) from Kd.V_mk ul415_1 ge415_1)
            clear hva_ hvn_ hvc_ ge415_1 ul415_1
            clear hcc415 hce415
            have HR415_1 := Aside0.mk hi415_1
            have HC415_1 := Aside0.mk hl415_1
            clear hi415_1 hl415_1
            replace p415 := eq_true p415
            replace q415 := eq_true q415
            refine start_ (n := 12) (S := fun w' => w'.cell? (ad414.add ((x13_4).toNat * 3)) = some (.int .i64 ((rd_T36 t389 x13_4).f0.f0)) ∧ w'.cell? ⟨(ad414.add ((x13_4).toNat * 3)).block, (ad414.add ((x13_4).toNat * 3)).off + 1, none⟩ = some (.slice A414_1 ((rd_T36 t389 x13_4).f0.f1).length c414_1) ∧ w'.cell? ⟨(ad414.add ((x13_4).toNat * 3)).block, (ad414.add ((x13_4).toNat * 3)).off + 2, none⟩ = some (.int .i64 ((rd_T36 t389 x13_4).f1)) ∧ w'.cell? (ad415.add ((x11_2).toNat * 3)) = some (.int .i64 ((rd_T36 t392 x11_2).f0.f0)) ∧ w'.cell? ⟨(ad415.add ((x11_2).toNat * 3)).block, (ad415.add ((x11_2).toNat * 3)).off + 1, none⟩ = some (.slice A415_1 ((rd_T36 t392 x11_2).f0.f1).length c415_1) ∧ w'.cell? ⟨(ad415.add ((x11_2).toNat * 3)).block, (ad415.add ((x11_2).toNat * 3)).off + 2, none⟩ = some (.int .i64 ((rd_T36 t392 x11_2).f1))) (ds := []) #[N5,N5,N5,N5,N5,N5,N5,N5,N5,N5,N5,N5] (by kernel_rfl) rfl rfl ⟨hx414_0, hx414_1, hx414_2, hx415_0, hx415_1, hx415_2⟩ (fun hHeld => ?_); refine with_tabW interlocutorlaw10_RankOrder.tab18 interlocutorlaw10_RankOrder.bits18 (fun HT_ HW_ => ?_)
            generalize wr.drew = w69 at HO_5 HO_6 HB HL414_1 HL415_1 HR414_1 HR415_1 hx414_0 hx414_1 hx414_2 hx415_0 hx415_1 hx415_2 hHeld ⊢
            refine pure_ (i := 0) (N := some 108) (v := ?_) (a' := ?_) #[Y5,N5,N5,N5,N5,N5,N5,N5,N5,N5,N5,N5] rfl rfl (any_of HT_.out (by kernel_rfl)) (fun _ _ _ h => h) (Or.inl ⟨by rfl, ?_⟩) ?_ ?_; rotate_left; (intro w'; go_simp; with_reducible rfl); rotate_left; (simp only [pq5]; rfl)
            refine pure_ (i := 1) (N := some 109) (v := ?_) (a' := ?_) #[Y5,Y5,N5,N5,N5,N5,N5,N5,N5,N5,N5,N5] rfl rfl (any_of HT_.out (by kernel_rfl)) (fun _ _ _ h => h) (Or.inl ⟨by rfl, ?_⟩) ?_ ?_; rotate_left; (intro w'; go_simp; with_reducible rfl); rotate_left; (simp only [pq5]; rfl)
            refine pure_ (i := 2) (N := some 110) (v := ?_) (a' := ?_) #[Y5,Y5,Y5,N5,N5,N5,N5,N5,N5,N5,N5,N5] rfl rfl (any_of HT_.out (by kernel_rfl)) (fun _ _ _ h => h) (Or.inl ⟨by rfl, ?_⟩) ?_ ?_; rotate_left; (intro w'; go_simp; with_reducible rfl); rotate_left; (simp only [pq5]; rfl)
            refine pure_ (i := 3) (N := some 111) (v := ?_) (a' := ?_) #[Y5,Y5,Y5,Y5,N5,N5,N5,N5,N5,N5,N5,N5] rfl rfl (any_of HT_.out (by kernel_rfl)) (fun _ _ _ h => h) (Or.inl ⟨by rfl, ?_⟩) ?_ ?_; rotate_left; (intro w'; go_simp; with_reducible rfl); rotate_left; (simp only [pq5]; rfl)
            refine pure_ (i := 5) (N := some 113) (v := ?_) (a' := ?_) #[Y5,Y5,Y5,Y5,N5,Y5,N5,N5,N5,N5,N5,N5] rfl rfl (any_of HT_.out (by kernel_rfl)) (fun _ _ _ h => h) (Or.inl ⟨by rfl, ?_⟩) ?_ ?_; rotate_left; (intro w'; go_simp; with_reducible rfl); rotate_left; (simp only [pq5]; rfl)
            refine pure_ (i := 6) (N := some 114) (v := ?_) (a' := ?_) #[Y5,Y5,Y5,Y5,N5,Y5,Y5,N5,N5,N5,N5,N5] rfl rfl (any_of HT_.out (by kernel_rfl)) (fun _ _ _ h => h) (Or.inl ⟨by rfl, ?_⟩) ?_ ?_; rotate_left; (intro w'; go_simp; with_reducible rfl); rotate_left; (simp only [pq5]; rfl)
            refine pure_ (i := 7) (N := some 115) (v := ?_) (a' := ?_) #[Y5,Y5,Y5,Y5,N5,Y5,Y5,Y5,N5,N5,N5,N5] rfl rfl (any_of HT_.out (by kernel_rfl)) (fun _ _ _ h => h) (Or.inl ⟨by rfl, ?_⟩) ?_ ?_; rotate_left; (intro w'; go_simp; with_reducible rfl); rotate_left; (simp only [pq5]; rfl)
            refine pure_ (i := 8) (N := some 116) (v := ?_) (a' := ?_) #[Y5,Y5,Y5,Y5,N5,Y5,Y5,Y5,Y5,N5,N5,N5] rfl rfl (any_of HT_.out (by kernel_rfl)) (fun _ _ _ h => h) (Or.inl ⟨by rfl, ?_⟩) ?_ ?_; rotate_left; (intro w'; go_simp; with_reducible rfl); rotate_left; (simp only [pq5]; rfl)
            refine take_ (i := 4) (N := some 112) (v := ?_) (a' := ?_) #[Y5,Y5,Y5,Y5,Y5,Y5,Y5,Y5,Y5,N5,N5,N5] rfl rfl (take_ofW HT_.out HW_.out (by kernel_rfl)) (fun _ _ _ h => h) (Or.inl ⟨by rfl, ?_⟩) hHeld ?_ ?_
            rotate_left
            · rintro w' ⟨s0, s1, s2, s3, s4, s5⟩
              go_simp
              with_reducible rfl
            rotate_left
            · simp only [pq5]
              rfl
            refine take_ (i := 9) (N := some 117) (v := ?_) (a' := ?_) #[Y5,Y5,Y5,Y5,Y5,Y5,Y5,Y5,Y5,Y5,N5,N5] rfl rfl (take_ofW HT_.out HW_.out (by kernel_rfl)) (fun _ _ _ h => h) (Or.inl ⟨by rfl, ?_⟩) hHeld ?_ ?_
            rotate_left
            · rintro w' ⟨s0, s1, s2, s3, s4, s5⟩
              go_simp
              with_reducible rfl
            rotate_left
            · simp only [pq5]
              rfl
            refine one_ (i := 10) (N := some 118) #[Y5,Y5,Y5,Y5,Y5,Y5,Y5,Y5,Y5,Y5,Y5,N5] rfl rfl (one_of HT_.out (by kernel_rfl)) (by decide) (fun K hK => ?_)
            refine goes_ Tryd.func15 (by kernel_rfl) rfl #[.agg #[.int .i64 ((rd_T36 t389 x13_4).f0.f0), .slice A414_1 ((rd_T36 t389 x13_4).f0.f1).length c414_1], .agg #[.int .i64 ((rd_T36 t392 x11_2).f0.f0), .slice A415_1 ((rd_T36 t392 x11_2).f0.f1).length c415_1]] (by rfl) rfl rfl (by (try simp only [List.map_toArray, List.map_cons, List.map_nil]); first | done | rfl | (simp only [List.length_drop, List.length_take]; rfl)) ?_
            with_reducible refine (interlocutorref10_Cmp.calls k4 ((rd_T36 t389 x13_4).f0.f0) _ _ ((rd_T36 t389 x13_4).f0.f1) ((rd_T36 t392 x11_2).f0.f0) _ _ ((rd_T36 t392 x11_2).f0.f1) t416 _ ?side1 ?side2 ?side3 ?side4 A48.out).mono ?_
            (case side1 => repeat (first | exact (by repeat (first | (with_reducible exact HR414_1.out) | (with_reducible refine Kd.C_alloc ?_ _) | (with_reducible refine Kd.C_drewN ?_ _) | (with_reducible refine Kd.C_drew ?_) | exact HR414_1.out)) | (with_reducible refine Kd.C_alloc ?_ _) | (with_reducible refine Kd.C_drewN ?_ _) | (with_reducible refine Kd.C_drew ?_)))
            (case side2 => exact HC414_1.out)
            (case side3 => repeat (first | exact (by repeat (first | (with_reducible exact HR415_1.out) | (with_reducible refine Kd.C_alloc ?_ _) | (with_reducible refine Kd.C_drewN ?_ _) | (with_reducible refine Kd.C_drew ?_) | exact HR415_1.out)) | (with_reducible refine Kd.C_alloc ?_ _) | (with_reducible refine Kd.C_drewN ?_ _) | (with_reducible refine Kd.C_drew ?_)))
            (case side4 => exact HC415_1.out)
            rintro e w70 ⟨rfl, hb⟩
            have HS0_ := (hb.cell (World.block_lt_of_cell? _ _ (hHeld.1))).trans (hHeld.1)
            have HS1_ := (hb.cell (World.block_lt_of_cell? _ _ (hHeld.2.1))).trans (hHeld.2.1)
            have HS2_ := (hb.cell (World.block_lt_of_cell? _ _ (hHeld.2.2.1))).trans (hHeld.2.2.1)
            have HS3_ := (hb.cell (World.block_lt_of_cell? _ _ (hHeld.2.2.2.1))).trans (hHeld.2.2.2.1)
            have HS4_ := (hb.cell (World.block_lt_of_cell? _ _ (hHeld.2.2.2.2.1))).trans (hHeld.2.2.2.2.1)
            have HS5_ := (hb.cell (World.block_lt_of_cell? _ _ (hHeld.2.2.2.2.2))).trans (hHeld.2.2.2.2.2)
            refine ⟨_, rfl, ?_⟩
            have n0_ := Aside0.mk (Kd.S_below (by (with_reducible repeat (first | apply Kd.S_alloc | apply Kd.S_drewN | apply Kd.S_drew)); exact HO_5.out) hb)
            have n1_ := Aside0.mk (Kd.V_below (by (with_reducible repeat (first | apply Kd.V_alloc | apply Kd.V_drewN | apply Kd.V_drew)); exact HO_6.out) hb)
            have n2_ := Aside0.mk (Kd.R_below (by (with_reducible repeat (first | apply Kd.R_alloc | apply Kd.R_drewN | apply Kd.R_drew)); exact HL414_1.out) hb)
            have n3_ := Aside0.mk (Kd.V_below (by (with_reducible repeat (first | apply Kd.V_alloc | apply Kd.V_drewN | apply Kd.V_drew)); exact HL415_1.out) hb)
            have n4_ := Aside0.mk (Kd.C_below (by repeat (first | (with_reducible exact HR414_1.out) | (with_reducible refine Kd.C_alloc ?_ _) | (with_reducible refine Kd.C_drewN ?_ _) | (with_reducible refine Kd.C_drew ?_) | exact HR414_1.out)) hb)
            have n5_ := Aside0.mk (Kd.C_below (by repeat (first | (with_reducible exact HR415_1.out) | (with_reducible refine Kd.C_alloc ?_ _) | (with_reducible refine Kd.C_drewN ?_ _) | (with_reducible refine Kd.C_drew ?_) | exact HR415_1.out)) hb)
            have n6_ := Aside0.mk (below_step (by repeat (first | (with_reducible first | exact HB.out | apply below_alloc | apply pw_below_drewN | apply below_drew1) | exact HB.out)) hb)
            clear HO_5
            clear HO_6
            clear HL414_1
            clear HL415_1
            clear HR414_1
            clear HR415_1
            clear HB
            have HO_5 := n0_
            have HO_6 := n1_
            have HL414_1 := n2_
            have HL415_1 := n3_
            have HR414_1 := n4_
            have HR415_1 := n5_
            have HB := n6_
            clear n0_ n1_ n2_ n3_ n4_ n5_ n6_
            (try clear hb)
            (try clear hb2)
            (try clear hk)
            (try clear hi)
            refine hK.out _ _ ⟨HS0_, HS1_, HS2_, HS3_, HS4_, HS5_⟩ (fun hHeld => ?_)
            clear hK K
            refine norm_ (a' := ?_) ?_ ?_
            rotate_left
            · show Act.put _ (some 118) _ = _
              simp only [pq5]
              rfl
            refine pure_ (i := 11) (N := some 119) (v := ?_) (a' := ?_) #[Y5,Y5,Y5,Y5,Y5,Y5,Y5,Y5,Y5,Y5,Y5,Y5] rfl rfl (any_of HT_.out (by kernel_rfl)) (fun _ _ _ h => h) (Or.inl ⟨by rfl, ?_⟩) ?_ ?_; rotate_left; (intro w'; go_simp; with_reducible rfl); rotate_left; (simp only [pq5]; rfl)
            refine done_ (done_of HT_.out (by kernel_rfl)) ?_
            try go_wp2
            go_roundg k4
            case measure => have := HJ8.out; have := HK2.out; have := HJ27.out; have := HK4.out; omega
            case rel => exact ⟨(x12_4), (wrap64 (x13_4 + 1)), (by first | rfl | (simp; done) | (simp [*]; done)), (by first | rfl | (simp; done) | (simp [*]; done)), H', ⟨by have := HJ8.out; have := HK2.out; have := HJ27.out; have := HK4.out; omega⟩, ⟨by (with_reducible repeat (first | apply Kd.S_alloc | apply Kd.S_drewN | apply Kd.S_drew)); exact HO_5.out⟩, ⟨by (with_reducible repeat (first | apply Kd.V_alloc | apply Kd.V_drewN | apply Kd.V_drew)); exact HO_6.out⟩, ⟨by repeat (first | (with_reducible first | exact HB.out | apply below_alloc | apply pw_below_drewN | apply below_drew1) | exact HB.out)⟩⟩
          rw [if_pos c49] at H
          have c49b0 : (t416 == 0) = true := beq_iff_eq.mpr c49
          have c49b1 : (t416 != 0) = false := bne_eq_false_iff_eq.mpr c49
          clear c49
          by_cases c50 : x12_4 = true
          · subst c50
            have H1 : (if ((rd_T36 t389 x13_4).f1) < ((rd_T36 t392 x11_2).f1) then (some false) else (interlocutorlaw10_RankOrder.l1 k4 t389 t392 x11_2 true (wrap64 (x13_4 + 1)))) = some r := by rw [if_pos rfl] at H; exact H
            clear H
            have H := H1
            clear H1
            by_cases c51 : ((rd_T36 t389 x13_4).f1) < ((rd_T36 t392 x11_2).f1)
            · rw [if_pos c51] at H
              have c51b0 : decide (((rd_T36 t389 x13_4).f1) < ((rd_T36 t392 x11_2).f1)) = true := decide_eq_true c51
              clear c51
              obtain rfl := Option.some.inj H
              try go_wp2
              have n0_ := Aside0.mk (Kd.S_drew HO_5.out)
              have n1_ := Aside0.mk (Kd.V_drew HO_6.out)
              have n2_ := Aside0.mk (below_drew1 HB.out)
              clear HO_5
              clear HO_6
              clear HB
              have HO_5 := n0_
              have HO_6 := n1_
              have HB := n2_
              clear n0_ n1_ n2_
              have p414 : 0 ≤ (x13_4 : Int) := of_decide_eq_true (by first | (with_reducible assumption) | assumption)
              have q414 : x13_4 < (t389.length : Int) := of_decide_eq_true (by first | (with_reducible assumption) | assumption)
              obtain ⟨ad414, A414_1, c414_1, e414, hx414_0, hx414_1, hx414_2, hl414_1, hi414_1⟩ := at_T36 (Kd.S_reads' HO_5.out).2.2 x13_4 p414 q414
              cases e414
              obtain ⟨ce414, hce414, hMe414, hcc414⟩ := Kd.S_get HO_5.out z36 x13_4 p414 (by first | exact q414 | exact of_decide_eq_true (by first | (with_reducible assumption) | assumption) | (have e_ := (Kd.S_reads' HO_5.out).1; omega))
              obtain ⟨ve414_1, rfl, ge414_1⟩ := k36_openM hMe414
              have hv414_1 := hcc414 1 _ rfl
              rw [add_field _ _ 1 (by omega)] at hv414_1
              replace hv414_1 := Option.some.inj (hv414_1.symm.trans hx414_1)
              rw [hv414_1] at ge414_1
              have HL414_1 := Aside0.mk (show Kd.R (Kd.int .i64) 3 _ _ _ _ ((rd_T36 t389 x13_4).f0.f1) from ge414_1)
              clear hv414_1 ge414_1
              clear hcc414 hce414
              have HR414_1 := Aside0.mk hi414_1
              have HC414_1 := Aside0.mk hl414_1
              clear hi414_1 hl414_1
              replace p414 := eq_true p414
              replace q414 := eq_true q414
              have p415 : 0 ≤ (x11_2 : Int) := of_decide_eq_true (by first | (with_reducible assumption) | assumption)
              have q415 : x11_2 < (t392.length : Int) := of_decide_eq_true (by first | (with_reducible assumption) | assumption)
              obtain ⟨ad415, A415_1, c415_1, e415, hx415_0, hx415_1, hx415_2, hl415_1, hi415_1⟩ := at_T36 (Kd.V_reads' HO_6.out).2.2 x11_2 p415 q415
              cases e415
              obtain ⟨ce415, hce415, hMe415, hcc415⟩ := Kd.V_get HO_6.out z36 x11_2 p415 (by first | exact q415 | exact of_decide_eq_true (by first | (with_reducible assumption) | assumption) | (have e_ := (Kd.V_reads' HO_6.out).1; omega))
              obtain ⟨ua415_1, uc415_1, rfl, ul415_1, ge415_1⟩ := k36_openF hMe415
              have hv415_1 := hcc415 1 _ rfl
              rw [add_field _ _ 1 (by omega)] at hv415_1
              replace hv415_1 := Option.some.inj (hv415_1.symm.trans hx415_1)
              injection hv415_1 with hva_ hvn_ hvc_
              rw [hva_] at ge415_1
              rw [hvc_] at ul415_1
              have HL415_1 := Aside0.mk (show Kd.V (Kd.int .i64) 3 _ w.heap.size _ _ ((rd_T36 t392 x11_2).f0.f1) from Kd.V_mk ul415_1 ge415_1)
              clear hva_ hvn_ hvc_ ge415_1 ul415_1
              clear hcc415 hce415
              have HR415_1 := Aside0.mk hi415_1
              have HC415_1 := Aside0.mk hl415_1
              clear hi415_1 hl415_1
              replace p415 := eq_true p415
              replace q415 := eq_true q415
              refine start_ (n := 12) (S := fun w' => w'.cell? (ad414.add ((x13_4).toNat * 3)) = some (.int .i64 ((rd_T36 t389 x13_4).f0.f0)) ∧ w'.cell? ⟨(ad414.add ((x13_4).toNat * 3)).block, (ad414.add ((x13_4).toNat * 3)).off + 1, none⟩ = some (.slice A414_1 ((rd_T36 t389 x13_4).f0.f1).length c414_1) ∧ w'.cell? ⟨(ad414.add ((x13_4).toNat * 3)).block, (ad414.add ((x13_4).toNat * 3)).off + 2, none⟩ = some (.int .i64 ((rd_T36 t389 x13_4).f1)) ∧ w'.cell? (ad415.add ((x11_2).toNat * 3)) = some (.int .i64 ((rd_T36 t392 x11_2).f0.f0)) ∧ w'.cell? ⟨(ad415.add ((x11_2).toNat * 3)).block, (ad415.add ((x11_2).toNat * 3)).off + 1, none⟩ = some (.slice A415_1 ((rd_T36 t392 x11_2).f0.f1).length c415_1) ∧ w'.cell? ⟨(ad415.add ((x11_2).toNat * 3)).block, (ad415.add ((x11_2).toNat * 3)).off + 2, none⟩ = some (.int .i64 ((rd_T36 t392 x11_2).f1))) (ds := []) #[N5,N5,N5,N5,N5,N5,N5,N5,N5,N5,N5,N5] (by kernel_rfl) rfl rfl ⟨hx414_0, hx414_1, hx414_2, hx415_0, hx415_1, hx415_2⟩ (fun hHeld => ?_); refine with_tabW interlocutorlaw10_RankOrder.tab18 interlocutorlaw10_RankOrder.bits18 (fun HT_ HW_ => ?_)
              generalize wr.drew = w52 at HO_5 HO_6 HB HL414_1 HL415_1 HR414_1 HR415_1 hx414_0 hx414_1 hx414_2 hx415_0 hx415_1 hx415_2 hHeld ⊢
              refine pure_ (i := 0) (N := some 108) (v := ?_) (a' := ?_) #[Y5,N5,N5,N5,N5,N5,N5,N5,N5,N5,N5,N5] rfl rfl (any_of HT_.out (by kernel_rfl)) (fun _ _ _ h => h) (Or.inl ⟨by rfl, ?_⟩) ?_ ?_; rotate_left; (intro w'; go_simp; with_reducible rfl); rotate_left; (simp only [pq5]; rfl)
              refine pure_ (i := 1) (N := some 109) (v := ?_) (a' := ?_) #[Y5,Y5,N5,N5,N5,N5,N5,N5,N5,N5,N5,N5] rfl rfl (any_of HT_.out (by kernel_rfl)) (fun _ _ _ h => h) (Or.inl ⟨by rfl, ?_⟩) ?_ ?_; rotate_left; (intro w'; go_simp; with_reducible rfl); rotate_left; (simp only [pq5]; rfl)
              refine pure_ (i := 2) (N := some 110) (v := ?_) (a' := ?_) #[Y5,Y5,Y5,N5,N5,N5,N5,N5,N5,N5,N5,N5] rfl rfl (any_of HT_.out (by kernel_rfl)) (fun _ _ _ h => h) (Or.inl ⟨by rfl, ?_⟩) ?_ ?_; rotate_left; (intro w'; go_simp; with_reducible rfl); rotate_left; (simp only [pq5]; rfl)
              refine pure_ (i := 3) (N := some 111) (v := ?_) (a' := ?_) #[Y5,Y5,Y5,Y5,N5,N5,N5,N5,N5,N5,N5,N5] rfl rfl (any_of HT_.out (by kernel_rfl)) (fun _ _ _ h => h) (Or.inl ⟨by rfl, ?_⟩) ?_ ?_; rotate_left; (intro w'; go_simp; with_reducible rfl); rotate_left; (simp only [pq5]; rfl)
              refine pure_ (i := 5) (N := some 113) (v := ?_) (a' := ?_) #[Y5,Y5,Y5,Y5,N5,Y5,N5,N5,N5,N5,N5,N5] rfl rfl (any_of HT_.out (by kernel_rfl)) (fun _ _ _ h => h) (Or.inl ⟨by rfl, ?_⟩) ?_ ?_; rotate_left; (intro w'; go_simp; with_reducible rfl); rotate_left; (simp only [pq5]; rfl)
              refine pure_ (i := 6) (N := some 114) (v := ?_) (a' := ?_) #[Y5,Y5,Y5,Y5,N5,Y5,Y5,N5,N5,N5,N5,N5] rfl rfl (any_of HT_.out (by kernel_rfl)) (fun _ _ _ h => h) (Or.inl ⟨by rfl, ?_⟩) ?_ ?_; rotate_left; (intro w'; go_simp; with_reducible rfl); rotate_left; (simp only [pq5]; rfl)
              refine pure_ (i := 7) (N := some 115) (v := ?_) (a' := ?_) #[Y5,Y5,Y5,Y5,N5,Y5,Y5,Y5,N5,N5,N5,N5] rfl rfl (any_of HT_.out (by kernel_rfl)) (fun _ _ _ h => h) (Or.inl ⟨by rfl, ?_⟩) ?_ ?_; rotate_left; (intro w'; go_simp; with_reducible rfl); rotate_left; (simp only [pq5]; rfl)
              refine pure_ (i := 8) (N := some 116) (v := ?_) (a' := ?_) #[Y5,Y5,Y5,Y5,N5,Y5,Y5,Y5,Y5,N5,N5,N5] rfl rfl (any_of HT_.out (by kernel_rfl)) (fun _ _ _ h => h) (Or.inl ⟨by rfl, ?_⟩) ?_ ?_; rotate_left; (intro w'; go_simp; with_reducible rfl); rotate_left; (simp only [pq5]; rfl)
              refine take_ (i := 4) (N := some 112) (v := ?_) (a' := ?_) #[Y5,Y5,Y5,Y5,Y5,Y5,Y5,Y5,Y5,N5,N5,N5] rfl rfl (take_ofW HT_.out HW_.out (by kernel_rfl)) (fun _ _ _ h => h) (Or.inl ⟨by rfl, ?_⟩) hHeld ?_ ?_
              rotate_left
              · rintro w' ⟨s0, s1, s2, s3, s4, s5⟩
                go_simp
                with_reducible rfl
              rotate_left
              · simp only [pq5]
                rfl
              refine take_ (i := 9) (N := some 117) (v := ?_) (a' := ?_) #[Y5,Y5,Y5,Y5,Y5,Y5,Y5,Y5,Y5,Y5,N5,N5] rfl rfl (take_ofW HT_.out HW_.out (by kernel_rfl)) (fun _ _ _ h => h) (Or.inl ⟨by rfl, ?_⟩) hHeld ?_ ?_
              rotate_left
              · rintro w' ⟨s0, s1, s2, s3, s4, s5⟩
                go_simp
                with_reducible rfl
              rotate_left
              · simp only [pq5]
                rfl
              refine one_ (i := 10) (N := some 118) #[Y5,Y5,Y5,Y5,Y5,Y5,Y5,Y5,Y5,Y5,Y5,N5] rfl rfl (one_of HT_.out (by kernel_rfl)) (by decide) (fun K hK => ?_)
              refine goes_ Tryd.func15 (by kernel_rfl) rfl #[.agg #[.int .i64 ((rd_T36 t389 x13_4).f0.f0), .slice A414_1 ((rd_T36 t389 x13_4).f0.f1).length c414_1], .agg #[.int .i64 ((rd_T36 t392 x11_2).f0.f0), .slice A415_1 ((rd_T36 t392 x11_2).f0.f1).length c415_1]] (by rfl) rfl rfl (by (try simp only [List.map_toArray, List.map_cons, List.map_nil]); first | done | rfl | (simp only [List.length_drop, List.length_take]; rfl)) ?_
              with_reducible refine (interlocutorref10_Cmp.calls k4 ((rd_T36 t389 x13_4).f0.f0) _ _ ((rd_T36 t389 x13_4).f0.f1) ((rd_T36 t392 x11_2).f0.f0) _ _ ((rd_T36 t392 x11_2).f0.f1) t416 _ ?side1 ?side2 ?side3 ?side4 A48.out).mono ?_
              (case side1 => repeat (first | exact (by repeat (first | (with_reducible exact HR414_1.out) | (with_reducible refine Kd.C_alloc ?_ _) | (with_reducible refine Kd.C_drewN ?_ _) | (with_reducible refine Kd.C_drew ?_) | exact HR414_1.out)) | (with_reducible refine Kd.C_alloc ?_ _) | (with_reducible refine Kd.C_drewN ?_ _) | (with_reducible refine Kd.C_drew ?_)))
              (case side2 => exact HC414_1.out)
              (case side3 => repeat (first | exact (by repeat (first | (with_reducible exact HR415_1.out) | (with_reducible refine Kd.C_alloc ?_ _) | (with_reducible refine Kd.C_drewN ?_ _) | (with_reducible refine Kd.C_drew ?_) | exact HR415_1.out)) | (with_reducible refine Kd.C_alloc ?_ _) | (with_reducible refine Kd.C_drewN ?_ _) | (with_reducible refine Kd.C_drew ?_)))
              (case side4 => exact HC415_1.out)
              rintro e w53 ⟨rfl, hb⟩
              have HS0_ := (hb.cell (World.block_lt_of_cell? _ _ (hHeld.1))).trans (hHeld.1)
              have HS1_ := (hb.cell (World.block_lt_of_cell? _ _ (hHeld.2.1))).trans (hHeld.2.1)
              have HS2_ := (hb.cell (World.block_lt_of_cell? _ _ (hHeld.2.2.1))).trans (hHeld.2.2.1)
              have HS3_ := (hb.cell (World.block_lt_of_cell? _ _ (hHeld.2.2.2.1))).trans (hHeld.2.2.2.1)
              have HS4_ := (hb.cell (World.block_lt_of_cell? _ _ (hHeld.2.2.2.2.1))).trans (hHeld.2.2.2.2.1)
              have HS5_ := (hb.cell (World.block_lt_of_cell? _ _ (hHeld.2.2.2.2.2))).trans (hHeld.2.2.2.2.2)
              refine ⟨_, rfl, ?_⟩
              have n0_ := Aside0.mk (Kd.S_below (by (with_reducible repeat (first | apply Kd.S_alloc | apply Kd.S_drewN | apply Kd.S_drew)); exact HO_5.out) hb)
              have n1_ := Aside0.mk (Kd.V_below (by (with_reducible repeat (first | apply Kd.V_alloc | apply Kd.V_drewN | apply Kd.V_drew)); exact HO_6.out) hb)
              have n2_ := Aside0.mk (Kd.R_below (by (with_reducible repeat (first | apply Kd.R_alloc | apply Kd.R_drewN | apply Kd.R_drew)); exact HL414_1.out) hb)
              have n3_ := Aside0.mk (Kd.V_below (by (with_reducible repeat (first | apply Kd.V_alloc | apply Kd.V_drewN | apply Kd.V_drew)); exact HL415_1.out) hb)
              have n4_ := Aside0.mk (Kd.C_below (by repeat (first | (with_reducible exact HR414_1.out) | (with_reducible refine Kd.C_alloc ?_ _) | (with_reducible refine Kd.C_drewN ?_ _) | (with_reducible refine Kd.C_drew ?_) | exact HR414_1.out)) hb)
              have n5_ := Aside0.mk (Kd.C_below (by repeat (first | (with_reducible exact HR415_1.out) | (with_reducible refine Kd.C_alloc ?_ _) | (with_reducible refine Kd.C_drewN ?_ _) | (with_reducible refine Kd.C_drew ?_) | exact HR415_1.out)) hb)
              have n6_ := Aside0.mk (below_step (by repeat (first | (with_reducible first | exact HB.out | apply below_alloc | apply pw_below_drewN | apply below_drew1) | exact HB.out)) hb)
              clear HO_5
              clear HO_6
              clear HL414_1
              clear HL415_1
              clear HR414_1
              clear HR415_1
              clear HB
              have HO_5 := n0_
              have HO_6 := n1_
              have HL414_1 := n2_
              have HL415_1 := n3_
              have HR414_1 := n4_
              have HR415_1 := n5_
              have HB := n6_
              clear n0_ n1_ n2_ n3_ n4_ n5_ n6_
              (try clear hb)
              (try clear hb2)
              (try clear hk)
              (try clear hi)
              refine hK.out _ _ ⟨HS0_, HS1_, HS2_, HS3_, HS4_, HS5_⟩ (fun hHeld => ?_)
              clear hK K
              refine norm_ (a' := ?_) ?_ ?_
              rotate_left
              · show Act.put _ (some 118) _ = _
                simp only [pq5]
                rfl
              refine pure_ (i := 11) (N := some 119) (v := ?_) (a' := ?_) #[Y5,Y5,Y5,Y5,Y5,Y5,Y5,Y5,Y5,Y5,Y5,Y5] rfl rfl (any_of HT_.out (by kernel_rfl)) (fun _ _ _ h => h) (Or.inl ⟨by rfl, ?_⟩) ?_ ?_; rotate_left; (intro w'; go_simp; with_reducible rfl); rotate_left; (simp only [pq5]; rfl)
              refine done_ (done_of HT_.out (by kernel_rfl)) ?_
              try go_wp2
              have n0_ := Aside0.mk (Kd.S_drew HO_5.out)
              have n1_ := Aside0.mk (Kd.V_drew HO_6.out)
              have n2_ := Aside0.mk (Kd.R_drew HL414_1.out)
              have n3_ := Aside0.mk (Kd.V_drew HL415_1.out)
              have n4_ := Aside0.mk (Kd.C_drew HR414_1.out)
              have n5_ := Aside0.mk (Kd.C_drew HR415_1.out)
              have n6_ := Aside0.mk (below_drew1 HB.out)
              clear HO_5
              clear HO_6
              clear HL414_1
              clear HL415_1
              clear HR414_1
              clear HR415_1
              clear HB
              have HO_5 := n0_
              have HO_6 := n1_
              have HL414_1 := n2_
              have HL415_1 := n3_
              have HR414_1 := n4_
              have HR415_1 := n5_
              have HB := n6_
              clear n0_ n1_ n2_ n3_ n4_ n5_ n6_
              refine start_ (n := 15) (S := fun w' => True) (ds := []) #[N5,N5,N5,N5,N5,N5,N5,N5,N5,N5,N5,N5,N5,N5,N5] (by kernel_rfl) rfl rfl trivial (fun hHeld => ?_); refine with_tabW interlocutorlaw10_RankOrder.tab19 interlocutorlaw10_RankOrder.bits19 (fun HT_ HW_ => ?_)
              generalize w53.drew = w54 at HO_5 HO_6 HL414_1 HL415_1 HR414_1 HR415_1 HB hHeld ⊢
              refine pure_ (i := 0) (N := some 120) (v := ?_) (a' := ?_) #[Y5,N5,N5,N5,N5,N5,N5,N5,N5,N5,N5,N5,N5,N5,N5] rfl rfl (any_of HT_.out (by kernel_rfl)) (fun _ _ _ h => h) (Or.inl ⟨by rfl, ?_⟩) ?_ ?_; rotate_left; (intro w'; go_simp; with_reducible rfl); rotate_left; (simp only [pq5]; rfl)
              refine pure_ (i := 1) (N := some 121) (v := ?_) (a' := ?_) #[Y5,Y5,N5,N5,N5,N5,N5,N5,N5,N5,N5,N5,N5,N5,N5] rfl rfl (any_of HT_.out (by kernel_rfl)) (fun _ _ _ h => h) (Or.inl ⟨by rfl, ?_⟩) ?_ ?_; rotate_left; (intro w'; go_simp; with_reducible rfl); rotate_left; (simp only [pq5]; rfl)
              refine pure_ (i := 2) (N := some 122) (v := undef) (a' := ?_) #[Y5,Y5,Y5,N5,N5,N5,N5,N5,N5,N5,N5,N5,N5,N5,N5] rfl rfl (any_of HT_.out (by kernel_rfl)) (fun _ _ _ h => h) (Or.inr ⟨by rfl, rfl⟩) ?_ ?_
              rotate_left
              · simp only [pq5]
                rfl
              refine pure_ (i := 3) (N := some 123) (v := undef) (a' := ?_) #[Y5,Y5,Y5,Y5,N5,N5,N5,N5,N5,N5,N5,N5,N5,N5,N5] rfl rfl (any_of HT_.out (by kernel_rfl)) (fun _ _ _ h => h) (Or.inr ⟨by rfl, rfl⟩) ?_ ?_
              rotate_left
              · simp only [pq5]
                rfl
              refine pure_ (i := 4) (N := some 124) (v := undef) (a' := ?_) #[Y5,Y5,Y5,Y5,Y5,N5,N5,N5,N5,N5,N5,N5,N5,N5,N5] rfl rfl (any_of HT_.out (by kernel_rfl)) (fun _ _ _ h => h) (Or.inr ⟨by rfl, rfl⟩) ?_ ?_
              rotate_left
              · simp only [pq5]
                rfl
              refine pure_ (i := 5) (N := some 125) (v := undef) (a' := ?_) #[Y5,Y5,Y5,Y5,Y5,Y5,N5,N5,N5,N5,N5,N5,N5,N5,N5] rfl rfl (any_of HT_.out (by kernel_rfl)) (fun _ _ _ h => h) (Or.inr ⟨by rfl, rfl⟩) ?_ ?_
              rotate_left
              · simp only [pq5]
                rfl
              refine pure_ (i := 6) (N := some 126) (v := undef) (a' := ?_) #[Y5,Y5,Y5,Y5,Y5,Y5,Y5,N5,N5,N5,N5,N5,N5,N5,N5] rfl rfl (any_of HT_.out (by kernel_rfl)) (fun _ _ _ h => h) (Or.inr ⟨by rfl, rfl⟩) ?_ ?_
              rotate_left
              · simp only [pq5]
                rfl
              refine pure_ (i := 7) (N := some 127) (v := undef) (a' := ?_) #[Y5,Y5,Y5,Y5,Y5,Y5,Y5,Y5,N5,N5,N5,N5,N5,N5,N5] rfl rfl (any_of HT_.out (by kernel_rfl)) (fun _ _ _ h => h) (Or.inr ⟨by rfl, rfl⟩) ?_ ?_
              rotate_left
              · simp only [pq5]
                rfl
              refine pure_ (i := 8) (N := some 128) (v := undef) (a' := ?_) #[Y5,Y5,Y5,Y5,Y5,Y5,Y5,Y5,Y5,N5,N5,N5,N5,N5,N5] rfl rfl (any_of HT_.out (by kernel_rfl)) (fun _ _ _ h => h) (Or.inr ⟨by rfl, rfl⟩) ?_ ?_
              rotate_left
              · simp only [pq5]
                rfl
              refine pure_ (i := 9) (N := some 129) (v := undef) (a' := ?_) #[Y5,Y5,Y5,Y5,Y5,Y5,Y5,Y5,Y5,Y5,N5,N5,N5,N5,N5] rfl rfl (any_of HT_.out (by kernel_rfl)) (fun _ _ _ h => h) (Or.inr ⟨by rfl, rfl⟩) ?_ ?_
              rotate_left
              · simp only [pq5]
                rfl
              refine pure_ (i := 10) (N := some 130) (v := undef) (a' := ?_) #[Y5,Y5,Y5,Y5,Y5,Y5,Y5,Y5,Y5,Y5,Y5,N5,N5,N5,N5] rfl rfl (any_of HT_.out (by kernel_rfl)) (fun _ _ _ h => h) (Or.inr ⟨by rfl, rfl⟩) ?_ ?_
              rotate_left
              · simp only [pq5]
                rfl
              refine pure_ (i := 11) (N := some 131) (v := undef) (a' := ?_) #[Y5,Y5,Y5,Y5,Y5,Y5,Y5,Y5,Y5,Y5,Y5,Y5,N5,N5,N5] rfl rfl (any_of HT_.out (by kernel_rfl)) (fun _ _ _ h => h) (Or.inr ⟨by rfl, rfl⟩) ?_ ?_
              rotate_left
              · simp only [pq5]
                rfl
              refine pure_ (i := 12) (N := some 132) (v := undef) (a' := ?_) #[Y5,Y5,Y5,Y5,Y5,Y5,Y5,Y5,Y5,Y5,Y5,Y5,Y5,N5,N5] rfl rfl (any_of HT_.out (by kernel_rfl)) (fun _ _ _ h => h) (Or.inr ⟨by rfl, rfl⟩) ?_ ?_
              rotate_left
              · simp only [pq5]
                rfl
              refine pure_ (i := 13) (N := some 133) (v := ?_) (a' := ?_) #[Y5,Y5,Y5,Y5,Y5,Y5,Y5,Y5,Y5,Y5,Y5,Y5,Y5,Y5,N5] rfl rfl (any_of HT_.out (by kernel_rfl)) (fun _ _ _ h => h) (Or.inl ⟨by rfl, ?_⟩) ?_ ?_; rotate_left; (intro w'; go_simp; with_reducible rfl); rotate_left; (simp only [pq5]; rfl)
              refine pure_ (i := 14) (N := some 12) (v := ?_) (a' := ?_) #[Y5,Y5,Y5,Y5,Y5,Y5,Y5,Y5,Y5,Y5,Y5,Y5,Y5,Y5,Y5] rfl rfl (any_of HT_.out (by kernel_rfl)) (fun _ _ _ h => h) (Or.inl ⟨by rfl, ?_⟩) ?_ ?_; rotate_left; (intro w'; go_simp; with_reducible rfl); rotate_left; (simp only [pq5]; rfl)
              refine done_ (done_of HT_.out (by kernel_rfl)) ?_
              try go_wp2
              have n0_ := Aside0.mk (Kd.S_drew HO_5.out)
              have n1_ := Aside0.mk (Kd.V_drew HO_6.out)
              have n2_ := Aside0.mk (Kd.R_drew HL414_1.out)
              have n3_ := Aside0.mk (Kd.V_drew HL415_1.out)
              have n4_ := Aside0.mk (Kd.C_drew HR414_1.out)
              have n5_ := Aside0.mk (Kd.C_drew HR415_1.out)
              have n6_ := Aside0.mk (below_drew1 HB.out)
              clear HO_5
              clear HO_6
              clear HL414_1
              clear HL415_1
              clear HR414_1
              clear HR415_1
              clear HB
              have HO_5 := n0_
              have HO_6 := n1_
              have HL414_1 := n2_
              have HL415_1 := n3_
              have HR414_1 := n4_
              have HR415_1 := n5_
              have HB := n6_
              clear n0_ n1_ n2_ n3_ n4_ n5_ n6_
              have p417 : 0 ≤ (x13_4 : Int) := of_decide_eq_true (by first | (with_reducible assumption) | assumption)
              have q417 : x13_4 < (t389.length : Int) := of_decide_eq_true (by first | (with_reducible assumption) | assumption)
              obtain ⟨ad417, A417_1, c417_1, e417, hx417_0, hx417_1, hx417_2, hl417_1, hi417_1⟩ := at_T36 (Kd.S_reads' HO_5.out).2.2 x13_4 p417 q417
              obtain rfl : ad414 = ad417 := (by injection e417)
              obtain ⟨ce417, hce417, hMe417, hcc417⟩ := Kd.S_get HO_5.out z36 x13_4 p417 (by first | exact q417 | exact of_decide_eq_true (by first | (with_reducible assumption) | assumption) | (have e_ := (Kd.S_reads' HO_5.out).1; omega))
              obtain ⟨ve417_1, rfl, ge417_1⟩ := k36_openM hMe417
              have hv417_1 := hcc417 1 _ rfl
              rw [add_field _ _ 1 (by omega)] at hv417_1
              replace hv417_1 := Option.some.inj (hv417_1.symm.trans hx417_1)
              rw [hv417_1] at ge417_1
              have HL417_1 := Aside0.mk (show Kd.R (Kd.int .i64) 3 _ _ _ _ ((rd_T36 t389 x13_4).f0.f1) from ge417_1)
              clear hv417_1 ge417_1
              clear hcc417 hce417
              have HR417_1 := Aside0.mk hi417_1
              have HC417_1 := Aside0.mk hl417_1
              clear hi417_1 hl417_1
              replace p417 := eq_true p417
              replace q417 := eq_true q417
              have p418 : 0 ≤ (x11_2 : Int) := of_decide_eq_true (by first | (with_reducible assumption) | assumption)
              have q418 : x11_2 < (t392.length : Int) := of_decide_eq_true (by first | (with_reducible assumption) | assumption)
              obtain ⟨ad418, A418_1, c418_1, e418, hx418_0, hx418_1, hx418_2, hl418_1, hi418_1⟩ := at_T36 (Kd.V_reads' HO_6.out).2.2 x11_2 p418 q418
              obtain rfl : ad415 = ad418 := (by injection e418)
              obtain ⟨ce418, hce418, hMe418, hcc418⟩ := Kd.V_get HO_6.out z36 x11_2 p418 (by first | exact q418 | exact of_decide_eq_true (by first | (with_reducible assumption) | assumption) | (have e_ := (Kd.V_reads' HO_6.out).1; omega))
              obtain ⟨ua418_1, uc418_1, rfl, ul418_1, ge418_1⟩ := k36_openF hMe418
              have hv418_1 := hcc418 1 _ rfl
              rw [add_field _ _ 1 (by omega)] at hv418_1
              replace hv418_1 := Option.some.inj (hv418_1.symm.trans hx418_1)
              injection hv418_1 with hva_ hvn_ hvc_
              rw [hva_] at ge418_1
              rw [hvc_] at ul418_1
              have HL418_1 := Aside0.mk (show Kd.V (Kd.int .i64) 3 _ w.heap.size _ _ ((rd_T36 t392 x11_2).f0.f1) from Kd.V_mk ul418_1 ge418_1)
              clear hva_ hvn_ hvc_ ge418_1 ul418_1
              clear hcc418 hce418
              have HR418_1 := Aside0.mk hi418_1
              have HC418_1 := Aside0.mk hl418_1
              clear hi418_1 hl418_1
              replace p418 := eq_true p418
              replace q418 := eq_true q418
              refine start_ (n := 11) (S := fun w' => w'.cell? (ad414.add ((x13_4).toNat * 3)) = some (.int .i64 ((rd_T36 t389 x13_4).f0.f0)) ∧ w'.cell? ⟨(ad414.add ((x13_4).toNat * 3)).block, (ad414.add ((x13_4).toNat * 3)).off + 1, none⟩ = some (.slice A417_1 ((rd_T36 t389 x13_4).f0.f1).length c417_1) ∧ w'.cell? ⟨(ad414.add ((x13_4).toNat * 3)).block, (ad414.add ((x13_4).toNat * 3)).off + 2, none⟩ = some (.int .i64 ((rd_T36 t389 x13_4).f1)) ∧ w'.cell? (ad415.add ((x11_2).toNat * 3)) = some (.int .i64 ((rd_T36 t392 x11_2).f0.f0)) ∧ w'.cell? ⟨(ad415.add ((x11_2).toNat * 3)).block, (ad415.add ((x11_2).toNat * 3)).off + 1, none⟩ = some (.slice A418_1 ((rd_T36 t392 x11_2).f0.f1).length c418_1) ∧ w'.cell? ⟨(ad415.add ((x11_2).toNat * 3)).block, (ad415.add ((x11_2).toNat * 3)).off + 2, none⟩ = some (.int .i64 ((rd_T36 t392 x11_2).f1))) (ds := []) #[false, false, false, false, false, false, false, false, false, false, false] (by kernel_rfl) rfl rfl ⟨hx417_0, hx417_1, hx417_2, hx418_0, hx418_1, hx418_2⟩ (fun hHeld => ?_); refine with_tabW interlocutorlaw10_RankOrder.tab20 interlocutorlaw10_RankOrder.bits20 (fun HT_ HW_ => ?_)
              generalize w54.drew = w55 at HO_5 HO_6 HL414_1 HL415_1 HR414_1 HR415_1 HB HL417_1 HL418_1 HR417_1 HR418_1 hx417_0 hx417_1 hx417_2 hx418_0 hx418_1 hx418_2 hHeld ⊢
              refine pure_ (i := 0) (N := some 134) (v := ?_) (a' := ?_) #[true, false, false, false, false, false, false, false, false, false, false] rfl rfl (any_of HT_.out (by kernel_rfl)) (fun _ _ _ h => h) (Or.inl ⟨by rfl, ?_⟩) ?_ ?_; rotate_left; (intro w'; go_simp; with_reducible rfl); rotate_left; (simp only [pq5]; rfl)
              refine pure_ (i := 1) (N := some 135) (v := ?_) (a' := ?_) #[true, true, false, false, false, false, false, false, false, false, false] rfl rfl (any_of HT_.out (by kernel_rfl)) (fun _ _ _ h => h) (Or.inl ⟨by rfl, ?_⟩) ?_ ?_; rotate_left; (intro w'; go_simp; with_reducible rfl); rotate_left; (simp only [pq5]; rfl)
              refine pure_ (i := 2) (N := some 136) (v := ?_) (a' := ?_) #[true, true, true, false, false, false, false, false, false, false, false] rfl rfl (any_of HT_.out (by kernel_rfl)) (fun _ _ _ h => h) (Or.inl ⟨by rfl, ?_⟩) ?_ ?_; rotate_left; (intro w'; go_simp; with_reducible rfl); rotate_left; (simp only [pq5]; rfl)
              refine pure_ (i := 3) (N := some 137) (v := ?_) (a' := ?_) #[true, true, true, true, false, false, false, false, false, false, false] rfl rfl (any_of HT_.out (by kernel_rfl)) (fun _ _ _ h => h) (Or.inl ⟨by rfl, ?_⟩) ?_ ?_; rotate_left; (intro w'; go_simp; with_reducible rfl); rotate_left; (simp only [pq5]; rfl)
              refine pure_ (i := 5) (N := some 139) (v := ?_) (a' := ?_) #[true, true, true, true, false, true, false, false, false, false, false] rfl rfl (any_of HT_.out (by kernel_rfl)) (fun _ _ _ h => h) (Or.inl ⟨by rfl, ?_⟩) ?_ ?_; rotate_left; (intro w'; go_simp; with_reducible rfl); rotate_left; (simp only [pq5]; rfl)
              refine pure_ (i := 6) (N := some 140) (v := ?_) (a' := ?_) #[true, true, true, true, false, true, true, false, false, false, false] rfl rfl (any_of HT_.out (by kernel_rfl)) (fun _ _ _ h => h) (Or.inl ⟨by rfl, ?_⟩) ?_ ?_; rotate_left; (intro w'; go_simp; with_reducible rfl); rotate_left; (simp only [pq5]; rfl)
              refine pure_ (i := 7) (N := some 141) (v := ?_) (a' := ?_) #[true, true, true, true, false, true, true, true, false, false, false] rfl rfl (any_of HT_.out (by kernel_rfl)) (fun _ _ _ h => h) (Or.inl ⟨by rfl, ?_⟩) ?_ ?_; rotate_left; (intro w'; go_simp; with_reducible rfl); rotate_left; (simp only [pq5]; rfl)
              refine pure_ (i := 8) (N := some 142) (v := ?_) (a' := ?_) #[true, true, true, true, false, true, true, true, true, false, false] rfl rfl (any_of HT_.out (by kernel_rfl)) (fun _ _ _ h => h) (Or.inl ⟨by rfl, ?_⟩) ?_ ?_; rotate_left; (intro w'; go_simp; with_reducible rfl); rotate_left; (simp only [pq5]; rfl)
              refine take_ (i := 4) (N := some 138) (v := ?_) (a' := ?_) #[true, true, true, true, true, true, true, true, true, false, false] rfl rfl (take_ofW HT_.out HW_.out (by kernel_rfl)) (fun _ _ _ h => h) (Or.inl ⟨by rfl, ?_⟩) hHeld ?_ ?_
              rotate_left
              · rintro w' ⟨s0, s1, s2, s3, s4, s5⟩
                go_simp
                with_reducible rfl
              rotate_left
              · simp only [pq5]
                rfl
              refine take_ (i := 9) (N := some 143) (v := ?_) (a' := ?_) #[true, true, true, true, true, true, true, true, true, true, false] rfl rfl (take_ofW HT_.out HW_.out (by kernel_rfl)) (fun _ _ _ h => h) (Or.inl ⟨by rfl, ?_⟩) hHeld ?_ ?_
              rotate_left
              · rintro w' ⟨s0, s1, s2, s3, s4, s5⟩
                go_simp
                with_reducible rfl
              rotate_left
              · simp only [pq5]
                rfl
              refine pure_ (i := 10) (N := some 144) (v := ?_) (a' := ?_) #[true, true, true, true, true, true, true, true, true, true, true] rfl rfl (any_of HT_.out (by kernel_rfl)) (fun _ _ _ h => h) (Or.inl ⟨by rfl, ?_⟩) ?_ ?_; rotate_left; (intro w'; go_simp; with_reducible rfl); rotate_left; (simp only [pq5]; rfl)
              refine done_ (done_of HT_.out (by kernel_rfl)) ?_
              try go_wp2
              go_ret
              exact ⟨by first | rfl | (simp [errW_none, errW_some] <;> rfl) | (simp [*, errW_none, errW_some] <;> rfl), by repeat (first | (with_reducible first | exact HB.out | apply below_alloc | apply pw_below_drewN | apply below_drew1) | exact HB.out)⟩
            rw [if_neg c51] at H
            have c51b0 : decide (((rd_T36 t389 x13_4).f1) < ((rd_T36 t392 x11_2).f1)) = false := decide_eq_false c51
            clear c51
            have H' := Aside0.mk H
            clear H
            try go_wp2
            have n0_ := Aside0.mk (Kd.S_drew HO_5.out)
            have n1_ := Aside0.mk (Kd.V_drew HO_6.out)
            have n2_ := Aside0.mk (below_drew1 HB.out)
            clear HO_5
            clear HO_6
            clear HB
            have HO_5 := n0_
            have HO_6 := n1_
            have HB := n2_
            clear n0_ n1_ n2_
            have p414 : 0 ≤ (x13_4 : Int) := of_decide_eq_true (by first | (with_reducible assumption) | assumption)
            have q414 : x13_4 < (t389.length : Int) := of_decide_eq_true (by first | (with_reducible assumption) | assumption)
            obtain ⟨ad414, A414_1, c414_1, e414, hx414_0, hx414_1, hx414_2, hl414_1, hi414_1⟩ := at_T36 (Kd.S_reads' HO_5.out).2.2 x13_4 p414 q414
            cases e414
            obtain ⟨ce414, hce414, hMe414, hcc414⟩ := Kd.S_get HO_5.out z36 x13_4 p414 (by first | exact q414 | exact of_decide_eq_true (by first | (with_reducible assumption) | assumption) | (have e_ := (Kd.S_reads' HO_5.out).1; omega))
            obtain ⟨ve414_1, rfl, ge414_1⟩ := k36_openM hMe414
            have hv414_1 := hcc414 1 _ rfl
            rw [add_field _ _ 1 (by omega)] at hv414_1
            replace hv414_1 := Option.some.inj (hv414_1.symm.trans hx414_1)
            rw [hv414_1] at ge414_1
            have HL414_1 := Aside0.mk (show Kd.R (Kd.int .i64) 3 _ _ _ _ ((rd_T36 t389 x13_4).f0.f1) from ge414_1)
            clear hv414_1 ge414_1
            clear hcc414 hce414
            have HR414_1 := Aside0.mk hi414_1
            have HC414_1 := Aside0.mk hl414_1
            clear hi414_1 hl414_1
            replace p414 := eq_true p414
            replace q414 := eq_true q414
            have p415 : 0 ≤ (x11_2 : Int) := of_decide_eq_true (by first | (with_reducible assumption) | assumption)
            have q415 : x11_2 < (t392.length : Int) := of_decide_eq_true (by first | (with_reducible assumption) | assumption)
            obtain ⟨ad415, A415_1, c415_1, e415, hx415_0, hx415_1, hx415_2, hl415_1, hi415_1⟩ := at_T36 (Kd.V_reads' HO_6.out).2.2 x11_2 p415 q415
            cases e415
            obtain ⟨ce415, hce415, hMe415, hcc415⟩ := Kd.V_get HO_6.out z36 x11_2 p415 (by first | exact q415 | exact of_decide_eq_true (by first | (with_reducible assumption) | assumption) | (have e_ := (Kd.V_reads' HO_6.out).1; omega))
            obtain ⟨ua415_1, uc415_1, rfl, ul415_1, ge415_1⟩ := k36_openF hMe415
            have hv415_1 := hcc415 1 _ rfl
            rw [add_field _ _ 1 (by omega)] at hv415_1
            replace hv415_1 := Option.some.inj (hv415_1.symm.trans hx415_1)
            injection hv415_1 with hva_ hvn_ hvc_
            rw [hva_] at ge415_1
            rw [hvc_] at ul415_1
            have HL415_1 := Aside0.mk (show Kd.V (Kd.int .i64) 3 _ w.heap.size _ _ ((rd_T36 t392 x11_2).f0.f1) from Kd.V_mk ul415_1 ge415_1)
            clear hva_ hvn_ hvc_ ge415_1 ul415_1
            clear hcc415 hce415
            have HR415_1 := Aside0.mk hi415_1
            have HC415_1 := Aside0.mk hl415_1
            clear hi415_1 hl415_1
            replace p415 := eq_true p415
            replace q415 := eq_true q415
            refine start_ (n := 12) (S := fun w' => w'.cell? (ad414.add ((x13_4).toNat * 3)) = some (.int .i64 ((rd_T36 t389 x13_4).f0.f0)) ∧ w'.cell? ⟨(ad414.add ((x13_4).toNat * 3)).block, (ad414.add ((x13_4).toNat * 3)).off + 1, none⟩ = some (.slice A414_1 ((rd_T36 t389 x13_4).f0.f1).length c414_1) ∧ w'.cell? ⟨(ad414.add ((x13_4).toNat * 3)).block, (ad414.add ((x13_4).toNat * 3)).off + 2, none⟩ = some (.int .i64 ((rd_T36 t389 x13_4).f1)) ∧ w'.cell? (ad415.add ((x11_2).toNat * 3)) = some (.int .i64 ((rd_T36 t392 x11_2).f0.f0)) ∧ w'.cell? ⟨(ad415.add ((x11_2).toNat * 3)).block, (ad415.add ((x11_2).toNat * 3)).off + 1, none⟩ = some (.slice A415_1 ((rd_T36 t392 x11_2).f0.f1).length c415_1) ∧ w'.cell? ⟨(ad415.add ((x11_2).toNat * 3)).block, (ad415.add ((x11_2).toNat * 3)).off + 2, none⟩ = some (.int .i64 ((rd_T36 t392 x11_2).f1))) (ds := []) #[N5,N5,N5,N5,N5,N5,N5,N5,N5,N5,N5,N5] (by kernel_rfl) rfl rfl ⟨hx414_0, hx414_1, hx414_2, hx415_0, hx415_1, hx415_2⟩ (fun hHeld => ?_); refine with_tabW interlocutorlaw10_RankOrder.tab18 interlocutorlaw10_RankOrder.bits18 (fun HT_ HW_ => ?_)
            generalize wr.drew = w56 at HO_5 HO_6 HB HL414_1 HL415_1 HR414_1 HR415_1 hx414_0 hx414_1 hx414_2 hx415_0 hx415_1 hx415_2 hHeld ⊢
            refine pure_ (i := 0) (N := some 108) (v := ?_) (a' := ?_) #[Y5,N5,N5,N5,N5,N5,N5,N5,N5,N5,N5,N5] rfl rfl (any_of HT_.out (by kernel_rfl)) (fun _ _ _ h => h) (Or.inl ⟨by rfl, ?_⟩) ?_ ?_; rotate_left; (intro w'; go_simp; with_reducible rfl); rotate_left; (simp only [pq5]; rfl)
            refine pure_ (i := 1) (N := some 109) (v := ?_) (a' := ?_) #[Y5,Y5,N5,N5,N5,N5,N5,N5,N5,N5,N5,N5] rfl rfl (any_of HT_.out (by kernel_rfl)) (fun _ _ _ h => h) (Or.inl ⟨by rfl, ?_⟩) ?_ ?_; rotate_left; (intro w'; go_simp; with_reducible rfl); rotate_left; (simp only [pq5]; rfl)
            refine pure_ (i := 2) (N := some 110) (v := ?_) (a' := ?_) #[Y5,Y5,Y5,N5,N5,N5,N5,N5,N5,N5,N5,N5] rfl rfl (any_of HT_.out (by kernel_rfl)) (fun _ _ _ h => h) (Or.inl ⟨by rfl, ?_⟩) ?_ ?_; rotate_left; (intro w'; go_simp; with_reducible rfl); rotate_left; (simp only [pq5]; rfl)
            refine pure_ (i := 3) (N := some 111) (v := ?_) (a' := ?_) #[Y5,Y5,Y5,Y5,N5,N5,N5,N5,N5,N5,N5,N5] rfl rfl (any_of HT_.out (by kernel_rfl)) (fun _ _ _ h => h) (Or.inl ⟨by rfl, ?_⟩) ?_ ?_; rotate_left; (intro w'; go_simp; with_reducible rfl); rotate_left; (simp only [pq5]; rfl)
            refine pure_ (i := 5) (N := some 113) (v := ?_) (a' := ?_) #[Y5,Y5,Y5,Y5,N5,Y5,N5,N5,N5,N5,N5,N5] rfl rfl (any_of HT_.out (by kernel_rfl)) (fun _ _ _ h => h) (Or.inl ⟨by rfl, ?_⟩) ?_ ?_; rotate_left; (intro w'; go_simp; with_reducible rfl); rotate_left; (simp only [pq5]; rfl)
            refine pure_ (i := 6) (N := some 114) (v := ?_) (a' := ?_) #[Y5,Y5,Y5,Y5,N5,Y5,Y5,N5,N5,N5,N5,N5] rfl rfl (any_of HT_.out (by kernel_rfl)) (fun _ _ _ h => h) (Or.inl ⟨by rfl, ?_⟩) ?_ ?_; rotate_left; (intro w'; go_simp; with_reducible rfl); rotate_left; (simp only [pq5]; rfl)
            refine pure_ (i := 7) (N := some 115) (v := ?_) (a' := ?_) #[Y5,Y5,Y5,Y5,N5,Y5,Y5,Y5,N5,N5,N5,N5] rfl rfl (any_of HT_.out (by kernel_rfl)) (fun _ _ _ h => h) (Or.inl ⟨by rfl, ?_⟩) ?_ ?_; rotate_left; (intro w'; go_simp; with_reducible rfl); rotate_left; (simp only [pq5]; rfl)
            refine pure_ (i := 8) (N := some 116) (v := ?_) (a' := ?_) #[Y5,Y5,Y5,Y5,N5,Y5,Y5,Y5,Y5,N5,N5,N5] rfl rfl (any_of HT_.out (by kernel_rfl)) (fun _ _ _ h => h) (Or.inl ⟨by rfl, ?_⟩) ?_ ?_; rotate_left; (intro w'; go_simp; with_reducible rfl); rotate_left; (simp only [pq5]; rfl)
            refine take_ (i := 4) (N := some 112) (v := ?_) (a' := ?_) #[Y5,Y5,Y5,Y5,Y5,Y5,Y5,Y5,Y5,N5,N5,N5] rfl rfl (take_ofW HT_.out HW_.out (by kernel_rfl)) (fun _ _ _ h => h) (Or.inl ⟨by rfl, ?_⟩) hHeld ?_ ?_
            rotate_left
            · rintro w' ⟨s0, s1, s2, s3, s4, s5⟩
              go_simp
              with_reducible rfl
            rotate_left
            · simp only [pq5]
              rfl
            refine take_ (i := 9) (N := some 117) (v := ?_) (a' := ?_) #[Y5,Y5,Y5,Y5,Y5,Y5,Y5,Y5,Y5,Y5,N5,N5] rfl rfl (take_ofW HT_.out HW_.out (by kernel_rfl)) (fun _ _ _ h => h) (Or.inl ⟨by rfl, ?_⟩) hHeld ?_ ?_
            rotate_left
            · rintro w' ⟨s0, s1, s2, s3, s4, s5⟩
              go_simp
              with_reducible rfl
            rotate_left
            · simp only [pq5]
              rfl
            refine one_ (i := 10) (N := some 118) #[Y5,Y5,Y5,Y5,Y5,Y5,Y5,Y5,Y5,Y5,Y5,N5] rfl rfl (one_of HT_.out (by kernel_rfl)) (by decide) (fun K hK => ?_)
            refine goes_ Tryd.func15 (by kernel_rfl) rfl #[.agg #[.int .i64 ((rd_T36 t389 x13_4).f0.f0), .slice A414_1 ((rd_T36 t389 x13_4).f0.f1).length c414_1], .agg #[.int .i64 ((rd_T36 t392 x11_2).f0.f0), .slice A415_1 ((rd_T36 t392 x11_2).f0.f1).length c415_1]] (by rfl) rfl rfl (by (try simp only [List.map_toArray, List.map_cons, List.map_nil]); first | done | rfl | (simp only [List.length_drop, List.length_take]; rfl)) ?_
            with_reducible refine (interlocutorref10_Cmp.calls k4 ((rd_T36 t389 x13_4).f0.f0) _ _ ((rd_T36 t389 x13_4).f0.f1) ((rd_T36 t392 x11_2).f0.f0) _ _ ((rd_T36 t392 x11_2).f0.f1) t416 _ ?side1 ?side2 ?side3 ?side4 A48.out).mono ?_
            (case side1 => repeat (first | exact (by repeat (first | (with_reducible exact HR414_1.out) | (with_reducible refine Kd.C_alloc ?_ _) | (with_reducible refine Kd.C_drewN ?_ _) | (with_reducible refine Kd.C_drew ?_) | exact HR414_1.out)) | (with_reducible refine Kd.C_alloc ?_ _) | (with_reducible refine Kd.C_drewN ?_ _) | (with_reducible refine Kd.C_drew ?_)))
            (case side2 => exact HC414_1.out)
            (case side3 => repeat (first | exact (by repeat (first | (with_reducible exact HR415_1.out) | (with_reducible refine Kd.C_alloc ?_ _) | (with_reducible refine Kd.C_drewN ?_ _) | (with_reducible refine Kd.C_drew ?_) | exact HR415_1.out)) | (with_reducible refine Kd.C_alloc ?_ _) | (with_reducible refine Kd.C_drewN ?_ _) | (with_reducible refine Kd.C_drew ?_)))
            (case side4 => exact HC415_1.out)
            rintro e w57 ⟨rfl, hb⟩
            have HS0_ := (hb.cell (World.block_lt_of_cell? _ _ (hHeld.1))).trans (hHeld.1)
            have HS1_ := (hb.cell (World.block_lt_of_cell? _ _ (hHeld.2.1))).trans (hHeld.2.1)
            have HS2_ := (hb.cell (World.block_lt_of_cell? _ _ (hHeld.2.2.1))).trans (hHeld.2.2.1)
            have HS3_ := (hb.cell (World.block_lt_of_cell? _ _ (hHeld.2.2.2.1))).trans (hHeld.2.2.2.1)
            have HS4_ := (hb.cell (World.block_lt_of_cell? _ _ (hHeld.2.2.2.2.1))).trans (hHeld.2.2.2.2.1)
            have HS5_ := (hb.cell (World.block_lt_of_cell? _ _ (hHeld.2.2.2.2.2))).trans (hHeld.2.2.2.2.2)
            refine ⟨_, rfl, ?_⟩
            have n0_ := Aside0.mk (Kd.S_below (by (with_reducible repeat (first | apply Kd.S_alloc | apply Kd.S_drewN | apply Kd.S_drew)); exact HO_5.out) hb)
            have n1_ := Aside0.mk (Kd.V_below (by (with_reducible repeat (first | apply Kd.V_alloc | apply Kd.V_drewN | apply Kd.V_drew)); exact HO_6.out) hb)
            have n2_ := Aside0.mk (Kd.R_below (by (with_reducible repeat (first | apply Kd.R_alloc | apply Kd.R_drewN | apply Kd.R_drew)); exact HL414_1.out) hb)
            have n3_ := Aside0.mk (Kd.V_below (by (with_reducible repeat (first | apply Kd.V_alloc | apply Kd.V_drewN | apply Kd.V_drew)); exact HL415_1.out) hb)
            have n4_ := Aside0.mk (Kd.C_below (by repeat (first | (with_reducible exact HR414_1.out) | (with_reducible refine Kd.C_alloc ?_ _) | (with_reducible refine Kd.C_drewN ?_ _) | (with_reducible refine Kd.C_drew ?_) | exact HR414_1.out)) hb)
            have n5_ := Aside0.mk (Kd.C_below (by repeat (first | (with_reducible exact HR415_1.out) | (with_reducible refine Kd.C_alloc ?_ _) | (with_reducible refine Kd.C_drewN ?_ _) | (with_reducible refine Kd.C_drew ?_) | exact HR415_1.out)) hb)
            have n6_ := Aside0.mk (below_step (by repeat (first | (with_reducible first | exact HB.out | apply below_alloc | apply pw_below_drewN | apply below_drew1) | exact HB.out)) hb)
            clear HO_5
            clear HO_6
            clear HL414_1
            clear HL415_1
            clear HR414_1
            clear HR415_1
            clear HB
            have HO_5 := n0_
            have HO_6 := n1_
            have HL414_1 := n2_
            have HL415_1 := n3_
            have HR414_1 := n4_
            have HR415_1 := n5_
            have HB := n6_
            clear n0_ n1_ n2_ n3_ n4_ n5_ n6_
            (try clear hb)
            (try clear hb2)
            (try clear hk)
            (try clear hi)
            refine hK.out _ _ ⟨HS0_, HS1_, HS2_, HS3_, HS4_, HS5_⟩ (fun hHeld => ?_)
            clear hK K
            refine norm_ (a' := ?_) ?_ ?_
            rotate_left
            · show Act.put _ (some 118) _ = _
              simp only [pq5]
              rfl
            refine pure_ (i := 11) (N := some 119) (v := ?_) (a' := ?_) #[Y5,Y5,Y5,Y5,Y5,Y5,Y5,Y5,Y5,Y5,Y5,Y5] rfl rfl (any_of HT_.out (by kernel_rfl)) (fun _ _ _ h => h) (Or.inl ⟨by rfl, ?_⟩) ?_ ?_; rotate_left; (intro w'; go_simp; with_reducible rfl); rotate_left; (simp only [pq5]; rfl)
            refine done_ (done_of HT_.out (by kernel_rfl)) ?_
            try go_wp2
            have n0_ := Aside0.mk (Kd.S_drew HO_5.out)
            have n1_ := Aside0.mk (Kd.V_drew HO_6.out)
            have n2_ := Aside0.mk (Kd.R_drew HL414_1.out)
            have n3_ := Aside0.mk (Kd.V_drew HL415_1.out)
            have n4_ := Aside0.mk (Kd.C_drew HR414_1.out)
            have n5_ := Aside0.mk (Kd.C_drew HR415_1.out)
            have n6_ := Aside0.mk (below_drew1 HB.out)
            clear HO_5
            clear HO_6
            clear HL414_1
            clear HL415_1
            clear HR414_1
            clear HR415_1
            clear HB
            have HO_5 := n0_
            have HO_6 := n1_
            have HL414_1 := n2_
            have HL415_1 := n3_
            have HR414_1 := n4_
            have HR415_1 := n5_
            have HB := n6_
            clear n0_ n1_ n2_ n3_ n4_ n5_ n6_
            refine start_ (n := 15) (S := fun w' => True) (ds := []) #[N5,N5,N5,N5,N5,N5,N5,N5,N5,N5,N5,N5,N5,N5,N5] (by kernel_rfl) rfl rfl trivial (fun hHeld => ?_); refine with_tabW interlocutorlaw10_RankOrder.tab19 interlocutorlaw10_RankOrder.bits19 (fun HT_ HW_ => ?_)
            generalize w57.drew = w58 at HO_5 HO_6 HL414_1 HL415_1 HR414_1 HR415_1 HB hHeld ⊢
            refine pure_ (i := 0) (N := some 120) (v := ?_) (a' := ?_) #[Y5,N5,N5,N5,N5,N5,N5,N5,N5,N5,N5,N5,N5,N5,N5] rfl rfl (any_of HT_.out (by kernel_rfl)) (fun _ _ _ h => h) (Or.inl ⟨by rfl, ?_⟩) ?_ ?_; rotate_left; (intro w'; go_simp; with_reducible rfl); rotate_left; (simp only [pq5]; rfl)
            refine pure_ (i := 1) (N := some 121) (v := ?_) (a' := ?_) #[Y5,Y5,N5,N5,N5,N5,N5,N5,N5,N5,N5,N5,N5,N5,N5] rfl rfl (any_of HT_.out (by kernel_rfl)) (fun _ _ _ h => h) (Or.inl ⟨by rfl, ?_⟩) ?_ ?_; rotate_left; (intro w'; go_simp; with_reducible rfl); rotate_left; (simp only [pq5]; rfl)
            refine pure_ (i := 2) (N := some 122) (v := undef) (a' := ?_) #[Y5,Y5,Y5,N5,N5,N5,N5,N5,N5,N5,N5,N5,N5,N5,N5] rfl rfl (any_of HT_.out (by kernel_rfl)) (fun _ _ _ h => h) (Or.inr ⟨by rfl, rfl⟩) ?_ ?_
            rotate_left
            · simp only [pq5]
              rfl
            refine pure_ (i := 3) (N := some 123) (v := undef) (a' := ?_) #[Y5,Y5,Y5,Y5,N5,N5,N5,N5,N5,N5,N5,N5,N5,N5,N5] rfl rfl (any_of HT_.out (by kernel_rfl)) (fun _ _ _ h => h) (Or.inr ⟨by rfl, rfl⟩) ?_ ?_
            rotate_left
            · simp only [pq5]
              rfl
            refine pure_ (i := 4) (N := some 124) (v := undef) (a' := ?_) #[Y5,Y5,Y5,Y5,Y5,N5,N5,N5,N5,N5,N5,N5,N5,N5,N5] rfl rfl (any_of HT_.out (by kernel_rfl)) (fun _ _ _ h => h) (Or.inr ⟨by rfl, rfl⟩) ?_ ?_
            rotate_left
            · simp only [pq5]
              rfl
            refine pure_ (i := 5) (N := some 125) (v := undef) (a' := ?_) #[Y5,Y5,Y5,Y5,Y5,Y5,N5,N5,N5,N5,N5,N5,N5,N5,N5] rfl rfl (any_of HT_.out (by kernel_rfl)) (fun _ _ _ h => h) (Or.inr ⟨by rfl, rfl⟩) ?_ ?_
            rotate_left
            · simp only [pq5]
              rfl
            refine pure_ (i := 6) (N := some 126) (v := undef) (a' := ?_) #[Y5,Y5,Y5,Y5,Y5,Y5,Y5,N5,N5,N5,N5,N5,N5,N5,N5] rfl rfl (any_of HT_.out (by kernel_rfl)) (fun _ _ _ h => h) (Or.inr ⟨by rfl, rfl⟩) ?_ ?_
            rotate_left
            · simp only [pq5]
              rfl
            refine pure_ (i := 7) (N := some 127) (v := undef) (a' := ?_) #[Y5,Y5,Y5,Y5,Y5,Y5,Y5,Y5,N5,N5,N5,N5,N5,N5,N5] rfl rfl (any_of HT_.out (by kernel_rfl)) (fun _ _ _ h => h) (Or.inr ⟨by rfl, rfl⟩) ?_ ?_
            rotate_left
            · simp only [pq5]
              rfl
            refine pure_ (i := 8) (N := some 128) (v := undef) (a' := ?_) #[Y5,Y5,Y5,Y5,Y5,Y5,Y5,Y5,Y5,N5,N5,N5,N5,N5,N5] rfl rfl (any_of HT_.out (by kernel_rfl)) (fun _ _ _ h => h) (Or.inr ⟨by rfl, rfl⟩) ?_ ?_
            rotate_left
            · simp only [pq5]
              rfl
            refine pure_ (i := 9) (N := some 129) (v := undef) (a' := ?_) #[Y5,Y5,Y5,Y5,Y5,Y5,Y5,Y5,Y5,Y5,N5,N5,N5,N5,N5] rfl rfl (any_of HT_.out (by kernel_rfl)) (fun _ _ _ h => h) (Or.inr ⟨by rfl, rfl⟩) ?_ ?_
            rotate_left
            · simp only [pq5]
              rfl
            refine pure_ (i := 10) (N := some 130) (v := undef) (a' := ?_) #[Y5,Y5,Y5,Y5,Y5,Y5,Y5,Y5,Y5,Y5,Y5,N5,N5,N5,N5] rfl rfl (any_of HT_.out (by kernel_rfl)) (fun _ _ _ h => h) (Or.inr ⟨by rfl, rfl⟩) ?_ ?_
            rotate_left
            · simp only [pq5]
              rfl
            refine pure_ (i := 11) (N := some 131) (v := undef) (a' := ?_) #[Y5,Y5,Y5,Y5,Y5,Y5,Y5,Y5,Y5,Y5,Y5,Y5,N5,N5,N5] rfl rfl (any_of HT_.out (by kernel_rfl)) (fun _ _ _ h => h) (Or.inr ⟨by rfl, rfl⟩) ?_ ?_
            rotate_left
            · simp only [pq5]
              rfl
            refine pure_ (i := 12) (N := some 132) (v := undef) (a' := ?_) #[Y5,Y5,Y5,Y5,Y5,Y5,Y5,Y5,Y5,Y5,Y5,Y5,Y5,N5,N5] rfl rfl (any_of HT_.out (by kernel_rfl)) (fun _ _ _ h => h) (Or.inr ⟨by rfl, rfl⟩) ?_ ?_
            rotate_left
            · simp only [pq5]
              rfl
            refine pure_ (i := 13) (N := some 133) (v := ?_) (a' := ?_) #[Y5,Y5,Y5,Y5,Y5,Y5,Y5,Y5,Y5,Y5,Y5,Y5,Y5,Y5,N5] rfl rfl (any_of HT_.out (by kernel_rfl)) (fun _ _ _ h => h) (Or.inl ⟨by rfl, ?_⟩) ?_ ?_; rotate_left; (intro w'; go_simp; with_reducible rfl); rotate_left; (simp only [pq5]; rfl)
            refine pure_ (i := 14) (N := some 12) (v := ?_) (a' := ?_) #[Y5,Y5,Y5,Y5,Y5,Y5,Y5,Y5,Y5,Y5,Y5,Y5,Y5,Y5,Y5] rfl rfl (any_of HT_.out (by kernel_rfl)) (fun _ _ _ h => h) (Or.inl ⟨by rfl, ?_⟩) ?_ ?_; rotate_left; (intro w'; go_simp; with_reducible rfl); rotate_left; (simp only [pq5]; rfl)
            refine done_ (done_of HT_.out (by kernel_rfl)) ?_
            try go_wp2
            have n0_ := Aside0.mk (Kd.S_drew HO_5.out)
            have n1_ := Aside0.mk (Kd.V_drew HO_6.out)
            have n2_ := Aside0.mk (Kd.R_drew HL414_1.out)
            have n3_ := Aside0.mk (Kd.V_drew HL415_1.out)
            have n4_ := Aside0.mk (Kd.C_drew HR414_1.out)
            have n5_ := Aside0.mk (Kd.C_drew HR415_1.out)
            have n6_ := Aside0.mk (below_drew1 HB.out)
            clear HO_5
            clear HO_6
            clear HL414_1
            clear HL415_1
            clear HR414_1
            clear HR415_1
            clear HB
            have HO_5 := n0_
            have HO_6 := n1_
            have HL414_1 := n2_
            have HL415_1 := n3_
            have HR414_1 := n4_
            have HR415_1 := n5_
            have HB := n6_
            clear n0_ n1_ n2_ n3_ n4_ n5_ n6_
            have p417 : 0 ≤ (x13_4 : Int) := of_decide_eq_true (by first | (with_reducible assumption) | assumption)
            have q417 : x13_4 < (t389.length : Int) := of_decide_eq_true (by first | (with_reducible assumption) | assumption)
            obtain ⟨ad417, A417_1, c417_1, e417, hx417_0, hx417_1, hx417_2, hl417_1, hi417_1⟩ := at_T36 (Kd.S_reads' HO_5.out).2.2 x13_4 p417 q417
            obtain rfl : ad414 = ad417 := (by injection e417)
            obtain ⟨ce417, hce417, hMe417, hcc417⟩ := Kd.S_get HO_5.out z36 x13_4 p417 (by first | exact q417 | exact of_decide_eq_true (by first | (with_reducible assumption) | assumption) | (have e_ := (Kd.S_reads' HO_5.out).1; omega))
            obtain ⟨ve417_1, rfl, ge417_1⟩ := k36_openM hMe417
            have hv417_1 := hcc417 1 _ rfl
            rw [add_field _ _ 1 (by omega)] at hv417_1
            replace hv417_1 := Option.some.inj (hv417_1.symm.trans hx417_1)
            rw [hv417_1] at ge417_1
            have HL417_1 := Aside0.mk (show Kd.R (Kd.int .i64) 3 _ _ _ _ ((rd_T36 t389 x13_4).f0.f1) from ge417_1)
            clear hv417_1 ge417_1
            clear hcc417 hce417
            have HR417_1 := Aside0.mk hi417_1
            have HC417_1 := Aside0.mk hl417_1
            clear hi417_1 hl417_1
            replace p417 := eq_true p417
            replace q417 := eq_true q417
            have p418 : 0 ≤ (x11_2 : Int) := of_decide_eq_true (by first | (with_reducible assumption) | assumption)
            have q418 : x11_2 < (t392.length : Int) := of_decide_eq_true (by first | (with_reducible assumption) | assumption)
            obtain ⟨ad418, A418_1, c418_1, e418, hx418_0, hx418_1, hx418_2, hl418_1, hi418_1⟩ := at_T36 (Kd.V_reads' HO_6.out).2.2 x11_2 p418 q418
            obtain rfl : ad415 = ad418 := (by injection e418)
            obtain ⟨ce418, hce418, hMe418, hcc418⟩ := Kd.V_get HO_6.out z36 x11_2 p418 (by first | exact q418 | exact of_decide_eq_true (by first | (with_reducible assumption) | assumption) | (have e_ := (Kd.V_reads' HO_6.out).1; omega))
            obtain ⟨ua418_1, uc418_1, rfl, ul418_1, ge418_1⟩ := k36_openF hMe418
            have hv418_1 := hcc418 1 _ rfl
            rw [add_field _ _ 1 (by omega)] at hv418_1
            replace hv418_1 := Option.some.inj (hv418_1.symm.trans hx418_1)
            injection hv418_1 with hva_ hvn_ hvc_
            rw [hva_] at ge418_1
            rw [hvc_] at ul418_1
            have HL418_1 := Aside0.mk (show Kd.V (Kd.int .i64) 3 _ w.heap.size _ _ ((rd_T36 t392 x11_2).f0.f1) from Kd.V_mk ul418_1 ge418_1)
            clear hva_ hvn_ hvc_ ge418_1 ul418_1
            clear hcc418 hce418
            have HR418_1 := Aside0.mk hi418_1
            have HC418_1 := Aside0.mk hl418_1
            clear hi418_1 hl418_1
            replace p418 := eq_true p418
            replace q418 := eq_true q418
            refine start_ (n := 11) (S := fun w' => w'.cell? (ad414.add ((x13_4).toNat * 3)) = some (.int .i64 ((rd_T36 t389 x13_4).f0.f0)) ∧ w'.cell? ⟨(ad414.add ((x13_4).toNat * 3)).block, (ad414.add ((x13_4).toNat * 3)).off + 1, none⟩ = some (.slice A417_1 ((rd_T36 t389 x13_4).f0.f1).length c417_1) ∧ w'.cell? ⟨(ad414.add ((x13_4).toNat * 3)).block, (ad414.add ((x13_4).toNat * 3)).off + 2, none⟩ = some (.int .i64 ((rd_T36 t389 x13_4).f1)) ∧ w'.cell? (ad415.add ((x11_2).toNat * 3)) = some (.int .i64 ((rd_T36 t392 x11_2).f0.f0)) ∧ w'.cell? ⟨(ad415.add ((x11_2).toNat * 3)).block, (ad415.add ((x11_2).toNat * 3)).off + 1, none⟩ = some (.slice A418_1 ((rd_T36 t392 x11_2).f0.f1).length c418_1) ∧ w'.cell? ⟨(ad415.add ((x11_2).toNat * 3)).block, (ad415.add ((x11_2).toNat * 3)).off + 2, none⟩ = some (.int .i64 ((rd_T36 t392 x11_2).f1))) (ds := []) #[false, false, false, false, false, false, false, false, false, false, false] (by kernel_rfl) rfl rfl ⟨hx417_0, hx417_1, hx417_2, hx418_0, hx418_1, hx418_2⟩ (fun hHeld => ?_); refine with_tabW interlocutorlaw10_RankOrder.tab20 interlocutorlaw10_RankOrder.bits20 (fun HT_ HW_ => ?_)
            generalize w58.drew = w59 at HO_5 HO_6 HL414_1 HL415_1 HR414_1 HR415_1 HB HL417_1 HL418_1 HR417_1 HR418_1 hx417_0 hx417_1 hx417_2 hx418_0 hx418_1 hx418_2 hHeld ⊢
            refine pure_ (i := 0) (N := some 134) (v := ?_) (a' := ?_) #[true, false, false, false, false, false, false, false, false, false, false] rfl rfl (any_of HT_.out (by kernel_rfl)) (fun _ _ _ h => h) (Or.inl ⟨by rfl, ?_⟩) ?_ ?_; rotate_left; (intro w'; go_simp; with_reducible rfl); rotate_left; (simp only [pq5]; rfl)
            refine pure_ (i := 1) (N := some 135) (v := ?_) (a' := ?_) #[true, true, false, false, false, false, false, false, false, false, false] rfl rfl (any_of HT_.out (by kernel_rfl)) (fun _ _ _ h => h) (Or.inl ⟨by rfl, ?_⟩) ?_ ?_; rotate_left; (intro w'; go_simp; with_reducible rfl); rotate_left; (simp only [pq5]; rfl)
            refine pure_ (i := 2) (N := some 136) (v := ?_) (a' := ?_) #[true, true, true, false, false, false, false, false, false, false, false] rfl rfl (any_of HT_.out (by kernel_rfl)) (fun _ _ _ h => h) (Or.inl ⟨by rfl, ?_⟩) ?_ ?_; rotate_left; (intro w'; go_simp; with_reducible rfl); rotate_left; (simp only [pq5]; rfl)
            refine pure_ (i := 3) (N := some 137) (v := ?_) (a' := ?_) #[true, true, true, true, false, false, false, false, false, false, false] rfl rfl (any_of HT_.out (by kernel_rfl)) (fun _ _ _ h => h) (Or.inl ⟨by rfl, ?_⟩) ?_ ?_; rotate_left; (intro w'; go_simp; with_reducible rfl); rotate_left; (simp only [pq5]; rfl)
            refine pure_ (i := 5) (N := some 139) (v := ?_) (a' := ?_) #[true, true, true, true, false, true, false, false, false, false, false] rfl rfl (any_of HT_.out (by kernel_rfl)) (fun _ _ _ h => h) (Or.inl ⟨by rfl, ?_⟩) ?_ ?_; rotate_left; (intro w'; go_simp; with_reducible rfl); rotate_left; (simp only [pq5]; rfl)
            refine pure_ (i := 6) (N := some 140) (v := ?_) (a' := ?_) #[true, true, true, true, false, true, true, false, false, false, false] rfl rfl (any_of HT_.out (by kernel_rfl)) (fun _ _ _ h => h) (Or.inl ⟨by rfl, ?_⟩) ?_ ?_; rotate_left; (intro w'; go_simp; with_reducible rfl); rotate_left; (simp only [pq5]; rfl)
            refine pure_ (i := 7) (N := some 141) (v := ?_) (a' := ?_) #[true, true, true, true, false, true, true, true, false, false, false] rfl rfl (any_of HT_.out (by kernel_rfl)) (fun _ _ _ h => h) (Or.inl ⟨by rfl, ?_⟩) ?_ ?_; rotate_left; (intro w'; go_simp; with_reducible rfl); rotate_left; (simp only [pq5]; rfl)
            refine pure_ (i := 8) (N := some 142) (v := ?_) (a' := ?_) #[true, true, true, true, false, true, true, true, true, false, false] rfl rfl (any_of HT_.out (by kernel_rfl)) (fun _ _ _ h => h) (Or.inl ⟨by rfl, ?_⟩) ?_ ?_; rotate_left; (intro w'; go_simp; with_reducible rfl); rotate_left; (simp only [pq5]; rfl)
            refine take_ (i := 4) (N := some 138) (v := ?_) (a' := ?_) #[true, true, true, true, true, true, true, true, true, false, false] rfl rfl (take_ofW HT_.out HW_.out (by kernel_rfl)) (fun _ _ _ h => h) (Or.inl ⟨by rfl, ?_⟩) hHeld ?_ ?_
            rotate_left
            · rintro w' ⟨s0, s1, s2, s3, s4, s5⟩
              go_simp
              with_reducible rfl
            rotate_left
            · simp only [pq5]
              rfl
            refine take_ (i := 9) (N := some 143) (v := ?_) (a' := ?_) #[true, true, true, true, true, true, true, true, true, true, false] rfl rfl (take_ofW HT_.out HW_.out (by kernel_rfl)) (fun _ _ _ h => h) (Or.inl ⟨by rfl, ?_⟩) hHeld ?_ ?_
            rotate_left
            · rintro w' ⟨s0, s1, s2, s3, s4, s5⟩
              go_simp
              with_reducible rfl
            rotate_left
            · simp only [pq5]
              rfl
            refine pure_ (i := 10) (N := some 144) (v := ?_) (a' := ?_) #[true, true, true, true, true, true, true, true, true, true, true] rfl rfl (any_of HT_.out (by kernel_rfl)) (fun _ _ _ h => h) (Or.inl ⟨by rfl, ?_⟩) ?_ ?_; rotate_left; (intro w'; go_simp; with_reducible rfl); rotate_left; (simp only [pq5]; rfl)
            refine done_ (done_of HT_.out (by kernel_rfl)) ?_
            try go_wp2
            go_roundg k4
            case measure => have := HJ8.out; have := HK2.out; have := HJ27.out; have := HK4.out; omega
            case rel => exact ⟨(true), (wrap64 (x13_4 + 1)), (by first | rfl | (simp; done) | (simp [*]; done)), (by first | rfl | (simp; done) | (simp [*]; done)), H', ⟨by have := HJ8.out; have := HK2.out; have := HJ27.out; have := HK4.out; omega⟩, ⟨by (with_reducible repeat (first | apply Kd.S_alloc | apply Kd.S_drewN | apply Kd.S_drew)); exact HO_5.out⟩, ⟨by (with_reducible repeat (first | apply Kd.V_alloc | apply Kd.V_drewN | apply Kd.V_drew)); exact HO_6.out⟩, ⟨by repeat (first | (with_reducible first | exact HB.out | apply below_alloc | apply pw_below_drewN | apply below_drew1) | exact HB.out)⟩⟩
          replace c50 := Bool.eq_false_iff.mpr c50
          subst c50
          have H1 : (if ((rd_T36 t389 x13_4).f1) < ((rd_T36 t392 x11_2).f1) then (some false) else (interlocutorlaw10_RankOrder.l1 k4 t389 t392 x11_2 (((rd_T36 t389 x13_4).f1) == ((rd_T36 t392 x11_2).f1)) (wrap64 (x13_4 + 1)))) = some r := by rw [if_neg (show ¬ (false = true) by decide)] at H; exact H
          clear H
          have H := H1
          clear H1
          by_cases c60 : ((rd_T36 t389 x13_4).f1) < ((rd_T36 t392 x11_2).f1)
          · rw [if_pos c60] at H
            have c60b0 : decide (((rd_T36 t389 x13_4).f1) < ((rd_T36 t392 x11_2).f1)) = true := decide_eq_true c60
            clear c60
            obtain rfl := Option.some.inj H
            try go_wp2
            have n0_ := Aside0.mk (Kd.S_drew HO_5.out)
            have n1_ := Aside0.mk (Kd.V_drew HO_6.out)
            have n2_ := Aside0.mk (below_drew1 HB.out)
            clear HO_5
            clear HO_6
            clear HB
            have HO_5 := n0_
            have HO_6 := n1_
            have HB := n2_
            clear n0_ n1_ n2_
            have p414 : 0 ≤ (x13_4 : Int) := of_decide_eq_true (by first | (with_reducible assumption) | assumption)
            have q414 : x13_4 < (t389.length : Int) := of_decide_eq_true (by first | (with_reducible assumption) | assumption)
            obtain ⟨ad414, A414_1, c414_1, e414, hx414_0, hx414_1, hx414_2, hl414_1, hi414_1⟩ := at_T36 (Kd.S_reads' HO_5.out).2.2 x13_4 p414 q414
            cases e414
            obtain ⟨ce414, hce414, hMe414, hcc414⟩ := Kd.S_get HO_5.out z36 x13_4 p414 (by first | exact q414 | exact of_decide_eq_true (by first | (with_reducible assumption) | assumption) | (have e_ := (Kd.S_reads' HO_5.out).1; omega))
            obtain ⟨ve414_1, rfl, ge414_1⟩ := k36_openM hMe414
            have hv414_1 := hcc414 1 _ rfl
            rw [add_field _ _ 1 (by omega)] at hv414_1
            replace hv414_1 := Option.some.inj (hv414_1.symm.trans hx414_1)
            rw [hv414_1] at ge414_1
            have HL414_1 := Aside0.mk (show Kd.R (Kd.int .i64) 3 _ _ _ _ ((rd_T36 t389 x13_4).f0.f1) from ge414_1)
            clear hv414_1 ge414_1
            clear hcc414 hce414
            have HR414_1 := Aside0.mk hi414_1
            have HC414_1 := Aside0.mk hl414_1
            clear hi414_1 hl414_1
            replace p414 := eq_true p414
            replace q414 := eq_true q414
            have p415 : 0 ≤ (x11_2 : Int) := of_decide_eq_true (by first | (with_reducible assumption) | assumption)
            have q415 : x11_2 < (t392.length : Int) := of_decide_eq_true (by first | (with_reducible assumption) | assumption)
            obtain ⟨ad415, A415_1, c415_1, e415, hx415_0, hx415_1, hx415_2, hl415_1, hi415_1⟩ := at_T36 (Kd.V_reads' HO_6.out).2.2 x11_2 p415 q415
            cases e415
            obtain ⟨ce415, hce415, hMe415, hcc415⟩ := Kd.V_get HO_6.out z36 x11_2 p415 (by first | exact q415 | exact of_decide_eq_true (by first | (with_reducible assumption) | assumption) | (have e_ := (Kd.V_reads' HO_6.out).1; omega))
            obtain ⟨ua415_1, uc415_1, rfl, ul415_1, ge415_1⟩ := k36_openF hMe415
            have hv415_1 := hcc415 1 _ rfl
            rw [add_field _ _ 1 (by omega)] at hv415_1
            replace hv415_1 := Option.some.inj (hv415_1.symm.trans hx415_1)
            injection hv415_1 with hva_ hvn_ hvc_
            rw [hva_] at ge415_1
            rw [hvc_] at ul415_1
            have HL415_1 := Aside0.mk (show Kd.V (Kd.int .i64) 3 _ w.heap.size _ _ ((rd_T36 t392 x11_2).f0.f1) from Kd.V_mk ul415_1 ge415_1)
            clear hva_ hvn_ hvc_ ge415_1 ul415_1
            clear hcc415 hce415
            have HR415_1 := Aside0.mk hi415_1
            have HC415_1 := Aside0.mk hl415_1
            clear hi415_1 hl415_1
            replace p415 := eq_true p415
            replace q415 := eq_true q415
            refine start_ (n := 12) (S := fun w' => w'.cell? (ad414.add ((x13_4).toNat * 3)) = some (.int .i64 ((rd_T36 t389 x13_4).f0.f0)) ∧ w'.cell? ⟨(ad414.add ((x13_4).toNat * 3)).block, (ad414.add ((x13_4).toNat * 3)).off + 1, none⟩ = some (.slice A414_1 ((rd_T36 t389 x13_4).f0.f1).length c414_1) ∧ w'.cell? ⟨(ad414.add ((x13_4).toNat * 3)).block, (ad414.add ((x13_4).toNat * 3)).off + 2, none⟩ = some (.int .i64 ((rd_T36 t389 x13_4).f1)) ∧ w'.cell? (ad415.add ((x11_2).toNat * 3)) = some (.int .i64 ((rd_T36 t392 x11_2).f0.f0)) ∧ w'.cell? ⟨(ad415.add ((x11_2).toNat * 3)).block, (ad415.add ((x11_2).toNat * 3)).off + 1, none⟩ = some (.slice A415_1 ((rd_T36 t392 x11_2).f0.f1).length c415_1) ∧ w'.cell? ⟨(ad415.add ((x11_2).toNat * 3)).block, (ad415.add ((x11_2).toNat * 3)).off + 2, none⟩ = some (.int .i64 ((rd_T36 t392 x11_2).f1))) (ds := []) #[N5,N5,N5,N5,N5,N5,N5,N5,N5,N5,N5,N5] (by kernel_rfl) rfl rfl ⟨hx414_0, hx414_1, hx414_2, hx415_0, hx415_1, hx415_2⟩ (fun hHeld => ?_); refine with_tabW interlocutorlaw10_RankOrder.tab18 interlocutorlaw10_RankOrder.bits18 (fun HT_ HW_ => ?_)
            generalize wr.drew = w61 at HO_5 HO_6 HB HL414_1 HL415_1 HR414_1 HR415_1 hx414_0 hx414_1 hx414_2 hx415_0 hx415_1 hx415_2 hHeld ⊢
            refine pure_ (i := 0) (N := some 108) (v := ?_) (a' := ?_) #[Y5,N5,N5,N5,N5,N5,N5,N5,N5,N5,N5,N5] rfl rfl (any_of HT_.out (by kernel_rfl)) (fun _ _ _ h => h) (Or.inl ⟨by rfl, ?_⟩) ?_ ?_; rotate_left; (intro w'; go_simp; with_reducible rfl); rotate_left; (simp only [pq5]; rfl)
            refine pure_ (i := 1) (N := some 109) (v := ?_) (a' := ?_) #[Y5,Y5,N5,N5,N5,N5,N5,N5,N5,N5,N5,N5] rfl rfl (any_of HT_.out (by kernel_rfl)) (fun _ _ _ h => h) (Or.inl ⟨by rfl, ?_⟩) ?_ ?_; rotate_left; (intro w'; go_simp; with_reducible rfl); rotate_left; (simp only [pq5]; rfl)
            refine pure_ (i := 2) (N := some 110) (v := ?_) (a' := ?_) #[Y5,Y5,Y5,N5,N5,N5,N5,N5,N5,N5,N5,N5] rfl rfl (any_of HT_.out (by kernel_rfl)) (fun _ _ _ h => h) (Or.inl ⟨by rfl, ?_⟩) ?_ ?_; rotate_left; (intro w'; go_simp; with_reducible rfl); rotate_left; (simp only [pq5]; rfl)
            refine pure_ (i := 3) (N := some 111) (v := ?_) (a' := ?_) #[Y5,Y5,Y5,Y5,N5,N5,N5,N5,N5,N5,N5,N5] rfl rfl (any_of HT_.out (by kernel_rfl)) (fun _ _ _ h => h) (Or.inl ⟨by rfl, ?_⟩) ?_ ?_; rotate_left; (intro w'; go_simp; with_reducible rfl); rotate_left; (simp only [pq5]; rfl)
            refine pure_ (i := 5) (N := some 113) (v := ?_) (a' := ?_) #[Y5,Y5,Y5,Y5,N5,Y5,N5,N5,N5,N5,N5,N5] rfl rfl (any_of HT_.out (by kernel_rfl)) (fun _ _ _ h => h) (Or.inl ⟨by rfl, ?_⟩) ?_ ?_; rotate_left; (intro w'; go_simp; with_reducible rfl); rotate_left; (simp only [pq5]; rfl)
            refine pure_ (i := 6) (N := some 114) (v := ?_) (a' := ?_) #[Y5,Y5,Y5,Y5,N5,Y5,Y5,N5,N5,N5,N5,N5] rfl rfl (any_of HT_.out (by kernel_rfl)) (fun _ _ _ h => h) (Or.inl ⟨by rfl, ?_⟩) ?_ ?_; rotate_left; (intro w'; go_simp; with_reducible rfl); rotate_left; (simp only [pq5]; rfl)
            refine pure_ (i := 7) (N := some 115) (v := ?_) (a' := ?_) #[Y5,Y5,Y5,Y5,N5,Y5,Y5,Y5,N5,N5,N5,N5] rfl rfl (any_of HT_.out (by kernel_rfl)) (fun _ _ _ h => h) (Or.inl ⟨by rfl, ?_⟩) ?_ ?_; rotate_left; (intro w'; go_simp; with_reducible rfl); rotate_left; (simp only [pq5]; rfl)
            refine pure_ (i := 8) (N := some 116) (v := ?_) (a' := ?_) #[Y5,Y5,Y5,Y5,N5,Y5,Y5,Y5,Y5,N5,N5,N5] rfl rfl (any_of HT_.out (by kernel_rfl)) (fun _ _ _ h => h) (Or.inl ⟨by rfl, ?_⟩) ?_ ?_; rotate_left; (intro w'; go_simp; with_reducible rfl); rotate_left; (simp only [pq5]; rfl)
            refine take_ (i := 4) (N := some 112) (v := ?_) (a' := ?_) #[Y5,Y5,Y5,Y5,Y5,Y5,Y5,Y5,Y5,N5,N5,N5] rfl rfl (take_ofW HT_.out HW_.out (by kernel_rfl)) (fun _ _ _ h => h) (Or.inl ⟨by rfl, ?_⟩) hHeld ?_ ?_
            rotate_left
            · rintro w' ⟨s0, s1, s2, s3, s4, s5⟩
              go_simp
              with_reducible rfl
            rotate_left
            · simp only [pq5]
              rfl
            refine take_ (i := 9) (N := some 117) (v := ?_) (a' := ?_) #[Y5,Y5,Y5,Y5,Y5,Y5,Y5,Y5,Y5,Y5,N5,N5] rfl rfl (take_ofW HT_.out HW_.out (by kernel_rfl)) (fun _ _ _ h => h) (Or.inl ⟨by rfl, ?_⟩) hHeld ?_ ?_
            rotate_left
            · rintro w' ⟨s0, s1, s2, s3, s4, s5⟩
              go_simp
              with_reducible rfl
            rotate_left
            · simp only [pq5]
              rfl
            refine one_ (i := 10) (N := some 118) #[Y5,Y5,Y5,Y5,Y5,Y5,Y5,Y5,Y5,Y5,Y5,N5] rfl rfl (one_of HT_.out (by kernel_rfl)) (by decide) (fun K hK => ?_)
            refine goes_ Tryd.func15 (by kernel_rfl) rfl #[.agg #[.int .i64 ((rd_T36 t389 x13_4).f0.f0), .slice A414_1 ((rd_T36 t389 x13_4).f0.f1).length c414_1], .agg #[.int .i64 ((rd_T36 t392 x11_2).f0.f0), .slice A415_1 ((rd_T36 t392 x11_2).f0.f1).length c415_1]] (by rfl) rfl rfl (by (try simp only [List.map_toArray, List.map_cons, List.map_nil]); first | done | rfl | (simp only [List.length_drop, List.length_take]; rfl)) ?_
            with_reducible refine (interlocutorref10_Cmp.calls k4 ((rd_T36 t389 x13_4).f0.f0) _ _ ((rd_T36 t389 x13_4).f0.f1) ((rd_T36 t392 x11_2).f0.f0) _ _ ((rd_T36 t392 x11_2).f0.f1) t416 _ ?side1 ?side2 ?side3 ?side4 A48.out).mono ?_
            (case side1 => repeat (first | exact (by repeat (first | (with_reducible exact HR414_1.out) | (with_reducible refine Kd.C_alloc ?_ _) | (with_reducible refine Kd.C_drewN ?_ _) | (with_reducible refine Kd.C_drew ?_) | exact HR414_1.out)) | (with_reducible refine Kd.C_alloc ?_ _) | (with_reducible refine Kd.C_drewN ?_ _) | (with_reducible refine Kd.C_drew ?_)))
            (case side2 => exact HC414_1.out)
            (case side3 => repeat (first | exact (by repeat (first | (with_reducible exact HR415_1.out) | (with_reducible refine Kd.C_alloc ?_ _) | (with_reducible refine Kd.C_drewN ?_ _) | (with_reducible refine Kd.C_drew ?_) | exact HR415_1.out)) | (with_reducible refine Kd.C_alloc ?_ _) | (with_reducible refine Kd.C_drewN ?_ _) | (with_reducible refine Kd.C_drew ?_)))
            (case side4 => exact HC415_1.out)
            rintro e w62 ⟨rfl, hb⟩
            have HS0_ := (hb.cell (World.block_lt_of_cell? _ _ (hHeld.1))).trans (hHeld.1)
            have HS1_ := (hb.cell (World.block_lt_of_cell? _ _ (hHeld.2.1))).trans (hHeld.2.1)
            have HS2_ := (hb.cell (World.block_lt_of_cell? _ _ (hHeld.2.2.1))).trans (hHeld.2.2.1)
            have HS3_ := (hb.cell (World.block_lt_of_cell? _ _ (hHeld.2.2.2.1))).trans (hHeld.2.2.2.1)
            have HS4_ := (hb.cell (World.block_lt_of_cell? _ _ (hHeld.2.2.2.2.1))).trans (hHeld.2.2.2.2.1)
            have HS5_ := (hb.cell (World.block_lt_of_cell? _ _ (hHeld.2.2.2.2.2))).trans (hHeld.2.2.2.2.2)
            refine ⟨_, rfl, ?_⟩
            have n0_ := Aside0.mk (Kd.S_below (by (with_reducible repeat (first | apply Kd.S_alloc | apply Kd.S_drewN | apply Kd.S_drew)); exact HO_5.out) hb)
            have n1_ := Aside0.mk (Kd.V_below (by (with_reducible repeat (first | apply Kd.V_alloc | apply Kd.V_drewN | apply Kd.V_drew)); exact HO_6.out) hb)
            have n2_ := Aside0.mk (Kd.R_below (by (with_reducible repeat (first | apply Kd.R_alloc | apply Kd.R_drewN | apply Kd.R_drew)); exact HL414_1.out) hb)
            have n3_ := Aside0.mk (Kd.V_below (by (with_reducible repeat (first | apply Kd.V_alloc | apply Kd.V_drewN | apply Kd.V_drew)); exact HL415_1.out) hb)
            have n4_ := Aside0.mk (Kd.C_below (by repeat (first | (with_reducible exact HR414_1.out) | (with_reducible refine Kd.C_alloc ?_ _) | (with_reducible refine Kd.C_drewN ?_ _) | (with_reducible refine Kd.C_drew ?_) | exact HR414_1.out)) hb)
            have n5_ := Aside0.mk (Kd.C_below (by repeat (first | (with_reducible exact HR415_1.out) | (with_reducible refine Kd.C_alloc ?_ _) | (with_reducible refine Kd.C_drewN ?_ _) | (with_reducible refine Kd.C_drew ?_) | exact HR415_1.out)) hb)
            have n6_ := Aside0.mk (below_step (by repeat (first | (with_reducible first | exact HB.out | apply below_alloc | apply pw_below_drewN | apply below_drew1) | exact HB.out)) hb)
            clear HO_5
            clear HO_6
            clear HL414_1
            clear HL415_1
            clear HR414_1
            clear HR415_1
            clear HB
            have HO_5 := n0_
            have HO_6 := n1_
            have HL414_1 := n2_
            have HL415_1 := n3_
            have HR414_1 := n4_
            have HR415_1 := n5_
            have HB := n6_
            clear n0_ n1_ n2_ n3_ n4_ n5_ n6_
            (try clear hb)
            (try clear hb2)
            (try clear hk)
            (try clear hi)
            refine hK.out _ _ ⟨HS0_, HS1_, HS2_, HS3_, HS4_, HS5_⟩ (fun hHeld => ?_)
            clear hK K
            refine norm_ (a' := ?_) ?_ ?_
            rotate_left
            · show Act.put _ (some 118) _ = _
              simp only [pq5]
              rfl
            refine pure_ (i := 11) (N := some 119) (v := ?_) (a' := ?_) #[Y5,Y5,Y5,Y5,Y5,Y5,Y5,Y5,Y5,Y5,Y5,Y5] rfl rfl (any_of HT_.out (by kernel_rfl)) (fun _ _ _ h => h) (Or.inl ⟨by rfl, ?_⟩) ?_ ?_; rotate_left; (intro w'; go_simp; with_reducible rfl); rotate_left; (simp only [pq5]; rfl)
            refine done_ (done_of HT_.out (by kernel_rfl)) ?_
            try go_wp2
            have n0_ := Aside0.mk (Kd.S_drew HO_5.out)
            have n1_ := Aside0.mk (Kd.V_drew HO_6.out)
            have n2_ := Aside0.mk (Kd.R_drew HL414_1.out)
            have n3_ := Aside0.mk (Kd.V_drew HL415_1.out)
            have n4_ := Aside0.mk (Kd.C_drew HR414_1.out)
            have n5_ := Aside0.mk (Kd.C_drew HR415_1.out)
            have n6_ := Aside0.mk (below_drew1 HB.out)
            clear HO_5
            clear HO_6
            clear HL414_1
            clear HL415_1
            clear HR414_1
            clear HR415_1
            clear HB
            have HO_5 := n0_
            have HO_6 := n1_
            have HL414_1 := n2_
            have HL415_1 := n3_
            have HR414_1 := n4_
            have HR415_1 := n5_
            have HB := n6_
            clear n0_ n1_ n2_ n3_ n4_ n5_ n6_
            have p419 : 0 ≤ (x13_4 : Int) := of_decide_eq_true (by first | (with_reducible assumption) | assumption)
            have q419 : x13_4 < (t389.length : Int) := of_decide_eq_true (by first | (with_reducible assumption) | assumption)
            obtain ⟨ad419, A419_1, c419_1, e419, hx419_0, hx419_1, hx419_2, hl419_1, hi419_1⟩ := at_T36 (Kd.S_reads' HO_5.out).2.2 x13_4 p419 q419
            obtain rfl : ad414 = ad419 := (by injection e419)
            obtain ⟨ce419, hce419, hMe419, hcc419⟩ := Kd.S_get HO_5.out z36 x13_4 p419 (by first | exact q419 | exact of_decide_eq_true (by first | (with_reducible assumption) | assumption) | (have e_ := (Kd.S_reads' HO_5.out).1; omega))
            obtain ⟨ve419_1, rfl, ge419_1⟩ := k36_openM hMe419
            have hv419_1 := hcc419 1 _ rfl
            rw [add_field _ _ 1 (by omega)] at hv419_1
            replace hv419_1 := Option.some.inj (hv419_1.symm.trans hx419_1)
            rw [hv419_1] at ge419_1
            have HL419_1 := Aside0.mk (show Kd.R (Kd.int .i64) 3 _ _ _ _ ((rd_T36 t389 x13_4).f0.f1) from ge419_1)
            clear hv419_1 ge419_1
            clear hcc419 hce419
            have HR419_1 := Aside0.mk hi419_1
            have HC419_1 := Aside0.mk hl419_1
            clear hi419_1 hl419_1
            replace p419 := eq_true p419
            replace q419 := eq_true q419
            have p420 : 0 ≤ (x11_2 : Int) := of_decide_eq_true (by first | (with_reducible assumption) | assumption)
            have q420 : x11_2 < (t392.length : Int) := of_decide_eq_true (by first | (with_reducible assumption) | assumption)
            obtain ⟨ad420, A420_1, c420_1, e420, hx420_0, hx420_1, hx420_2, hl420_1, hi420_1⟩ := at_T36 (Kd.V_reads' HO_6.out).2.2 x11_2 p420 q420
            obtain rfl : ad415 = ad420 := (by injection e420)
            obtain ⟨ce420, hce420, hMe420, hcc420⟩ := Kd.V_get HO_6.out z36 x11_2 p420 (by first | exact q420 | exact of_decide_eq_true (by first | (with_reducible assumption) | assumption) | (have e_ := (Kd.V_reads' HO_6.out).1; omega))
            obtain ⟨ua420_1, uc420_1, rfl, ul420_1, ge420_1⟩ := k36_openF hMe420
            have hv420_1 := hcc420 1 _ rfl
            rw [add_field _ _ 1 (by omega)] at hv420_1
            replace hv420_1 := Option.some.inj (hv420_1.symm.trans hx420_1)
            injection hv420_1 with hva_ hvn_ hvc_
            rw [hva_] at ge420_1
            rw [hvc_] at ul420_1
            have HL420_1 := Aside0.mk (show Kd.V (Kd.int .i64) 3 _ w.heap.size _ _ ((rd_T36 t392 x11_2).f0.f1) from Kd.V_mk ul420_1 ge420_1)
            clear hva_ hvn_ hvc_ ge420_1 ul420_1
            clear hcc420 hce420
            have HR420_1 := Aside0.mk hi420_1
            have HC420_1 := Aside0.mk hl420_1
            clear hi420_1 hl420_1
            replace p420 := eq_true p420
            replace q420 := eq_true q420
            refine start_ (n := 15) (S := fun w' => w'.cell? (ad414.add ((x13_4).toNat * 3)) = some (.int .i64 ((rd_T36 t389 x13_4).f0.f0)) ∧ w'.cell? ⟨(ad414.add ((x13_4).toNat * 3)).block, (ad414.add ((x13_4).toNat * 3)).off + 1, none⟩ = some (.slice A419_1 ((rd_T36 t389 x13_4).f0.f1).length c419_1) ∧ w'.cell? ⟨(ad414.add ((x13_4).toNat * 3)).block, (ad414.add ((x13_4).toNat * 3)).off + 2, none⟩ = some (.int .i64 ((rd_T36 t389 x13_4).f1)) ∧ w'.cell? (ad415.add ((x11_2).toNat * 3)) = some (.int .i64 ((rd_T36 t392 x11_2).f0.f0)) ∧ w'.cell? ⟨(ad415.add ((x11_2).toNat * 3)).block, (ad415.add ((x11_2).toNat * 3)).off + 1, none⟩ = some (.slice A420_1 ((rd_T36 t392 x11_2).f0.f1).length c420_1) ∧ w'.cell? ⟨(ad415.add ((x11_2).toNat * 3)).block, (ad415.add ((x11_2).toNat * 3)).off + 2, none⟩ = some (.int .i64 ((rd_T36 t392 x11_2).f1))) (ds := []) #[N5,N5,N5,N5,N5,N5,N5,N5,N5,N5,N5,N5,N5,N5,N5] (by kernel_rfl) rfl rfl ⟨hx419_0, hx419_1, hx419_2, hx420_0, hx420_1, hx420_2⟩ (fun hHeld => ?_); refine with_tabW interlocutorlaw10_RankOrder.tab19 interlocutorlaw10_RankOrder.bits19 (fun HT_ HW_ => ?_)
            generalize w62.drew = w63 at HO_5 HO_6 HL414_1 HL415_1 HR414_1 HR415_1 HB HL419_1 HL420_1 HR419_1 HR420_1 hx419_0 hx419_1 hx419_2 hx420_0 hx420_1 hx420_2 hHeld ⊢
            refine pure_ (i := 0) (N := some 120) (v := ?_) (a' := ?_) #[Y5,N5,N5,N5,N5,N5,N5,N5,N5,N5,N5,N5,N5,N5,N5] rfl rfl (any_of HT_.out (by kernel_rfl)) (fun _ _ _ h => h) (Or.inl ⟨by rfl, ?_⟩) ?_ ?_; rotate_left; (intro w'; go_simp; with_reducible rfl); rotate_left; (simp only [pq5]; rfl)
            refine pure_ (i := 1) (N := some 121) (v := ?_) (a' := ?_) #[Y5,Y5,N5,N5,N5,N5,N5,N5,N5,N5,N5,N5,N5,N5,N5] rfl rfl (any_of HT_.out (by kernel_rfl)) (fun _ _ _ h => h) (Or.inl ⟨by rfl, ?_⟩) ?_ ?_; rotate_left; (intro w'; go_simp; with_reducible rfl); rotate_left; (simp only [pq5]; rfl)
            refine pure_ (i := 2) (N := some 122) (v := ?_) (a' := ?_) #[Y5,Y5,Y5,N5,N5,N5,N5,N5,N5,N5,N5,N5,N5,N5,N5] rfl rfl (any_of HT_.out (by kernel_rfl)) (fun _ _ _ h => h) (Or.inl ⟨by rfl, ?_⟩) ?_ ?_; rotate_left; (intro w'; go_simp; with_reducible rfl); rotate_left; (simp only [pq5]; rfl)
            refine pure_ (i := 3) (N := some 123) (v := ?_) (a' := ?_) #[Y5,Y5,Y5,Y5,N5,N5,N5,N5,N5,N5,N5,N5,N5,N5,N5] rfl rfl (any_of HT_.out (by kernel_rfl)) (fun _ _ _ h => h) (Or.inl ⟨by rfl, ?_⟩) ?_ ?_; rotate_left; (intro w'; go_simp; with_reducible rfl); rotate_left; (simp only [pq5]; rfl)
            refine pure_ (i := 4) (N := some 124) (v := ?_) (a' := ?_) #[Y5,Y5,Y5,Y5,Y5,N5,N5,N5,N5,N5,N5,N5,N5,N5,N5] rfl rfl (any_of HT_.out (by kernel_rfl)) (fun _ _ _ h => h) (Or.inl ⟨by rfl, ?_⟩) ?_ ?_; rotate_left; (intro w'; go_simp; with_reducible rfl); rotate_left; (simp only [pq5]; rfl)
            refine pure_ (i := 5) (N := some 125) (v := ?_) (a' := ?_) #[Y5,Y5,Y5,Y5,Y5,Y5,N5,N5,N5,N5,N5,N5,N5,N5,N5] rfl rfl (any_of HT_.out (by kernel_rfl)) (fun _ _ _ h => h) (Or.inl ⟨by rfl, ?_⟩) ?_ ?_; rotate_left; (intro w'; go_simp; with_reducible rfl); rotate_left; (simp only [pq5]; rfl)
            refine pure_ (i := 7) (N := some 127) (v := ?_) (a' := ?_) #[Y5,Y5,Y5,Y5,Y5,Y5,N5,Y5,N5,N5,N5,N5,N5,N5,N5] rfl rfl (any_of HT_.out (by kernel_rfl)) (fun _ _ _ h => h) (Or.inl ⟨by rfl, ?_⟩) ?_ ?_; rotate_left; (intro w'; go_simp; with_reducible rfl); rotate_left; (simp only [pq5]; rfl)
            refine pure_ (i := 8) (N := some 128) (v := ?_) (a' := ?_) #[Y5,Y5,Y5,Y5,Y5,Y5,N5,Y5,Y5,N5,N5,N5,N5,N5,N5] rfl rfl (any_of HT_.out (by kernel_rfl)) (fun _ _ _ h => h) (Or.inl ⟨by rfl, ?_⟩) ?_ ?_; rotate_left; (intro w'; go_simp; with_reducible rfl); rotate_left; (simp only [pq5]; rfl)
            refine pure_ (i := 9) (N := some 129) (v := ?_) (a' := ?_) #[Y5,Y5,Y5,Y5,Y5,Y5,N5,Y5,Y5,Y5,N5,N5,N5,N5,N5] rfl rfl (any_of HT_.out (by kernel_rfl)) (fun _ _ _ h => h) (Or.inl ⟨by rfl, ?_⟩) ?_ ?_; rotate_left; (intro w'; go_simp; with_reducible rfl); rotate_left; (simp only [pq5]; rfl)
            refine pure_ (i := 10) (N := some 130) (v := ?_) (a' := ?_) #[Y5,Y5,Y5,Y5,Y5,Y5,N5,Y5,Y5,Y5,Y5,N5,N5,N5,N5] rfl rfl (any_of HT_.out (by kernel_rfl)) (fun _ _ _ h => h) (Or.inl ⟨by rfl, ?_⟩) ?_ ?_; rotate_left; (intro w'; go_simp; with_reducible rfl); rotate_left; (simp only [pq5]; rfl)
            refine take_ (i := 6) (N := some 126) (v := ?_) (a' := ?_) #[Y5,Y5,Y5,Y5,Y5,Y5,Y5,Y5,Y5,Y5,Y5,N5,N5,N5,N5] rfl rfl (take_ofW HT_.out HW_.out (by kernel_rfl)) (fun _ _ _ h => h) (Or.inl ⟨by rfl, ?_⟩) hHeld ?_ ?_
            rotate_left
            · rintro w' ⟨s0, s1, s2, s3, s4, s5⟩
              go_simp
              with_reducible rfl
            rotate_left
            · simp only [pq5]
              rfl
            refine take_ (i := 11) (N := some 131) (v := ?_) (a' := ?_) #[Y5,Y5,Y5,Y5,Y5,Y5,Y5,Y5,Y5,Y5,Y5,Y5,N5,N5,N5] rfl rfl (take_ofW HT_.out HW_.out (by kernel_rfl)) (fun _ _ _ h => h) (Or.inl ⟨by rfl, ?_⟩) hHeld ?_ ?_
            rotate_left
            · rintro w' ⟨s0, s1, s2, s3, s4, s5⟩
              go_simp
              with_reducible rfl
            rotate_left
            · simp only [pq5]
              rfl
            refine pure_ (i := 12) (N := some 132) (v := ?_) (a' := ?_) #[Y5,Y5,Y5,Y5,Y5,Y5,Y5,Y5,Y5,Y5,Y5,Y5,Y5,N5,N5] rfl rfl (any_of HT_.out (by kernel_rfl)) (fun _ _ _ h => h) (Or.inl ⟨by rfl, ?_⟩) ?_ ?_; rotate_left; (intro w'; go_simp; with_reducible rfl); rotate_left; (simp only [pq5]; rfl)
            refine pure_ (i := 13) (N := some 133) (v := ?_) (a' := ?_) #[Y5,Y5,Y5,Y5,Y5,Y5,Y5,Y5,Y5,Y5,Y5,Y5,Y5,Y5,N5] rfl rfl (any_of HT_.out (by kernel_rfl)) (fun _ _ _ h => h) (Or.inl ⟨by rfl, ?_⟩) ?_ ?_; rotate_left; (intro w'; go_simp; with_reducible rfl); rotate_left; (simp only [pq5]; rfl)
            refine pure_ (i := 14) (N := some 12) (v := ?_) (a' := ?_) #[Y5,Y5,Y5,Y5,Y5,Y5,Y5,Y5,Y5,Y5,Y5,Y5,Y5,Y5,Y5] rfl rfl (any_of HT_.out (by kernel_rfl)) (fun _ _ _ h => h) (Or.inl ⟨by rfl, ?_⟩) ?_ ?_; rotate_left; (intro w'; go_simp; with_reducible rfl); rotate_left; (simp only [pq5]; rfl)
            refine done_ (done_of HT_.out (by kernel_rfl)) ?_
            try go_wp2
            have n0_ := Aside0.mk (Kd.S_drew HO_5.out)
            have n1_ := Aside0.mk (Kd.V_drew HO_6.out)
            have n2_ := Aside0.mk (Kd.R_drew HL414_1.out)
            have n3_ := Aside0.mk (Kd.V_drew HL415_1.out)
            have n4_ := Aside0.mk (Kd.R_drew HL419_1.out)
            have n5_ := Aside0.mk (Kd.V_drew HL420_1.out)
            have n6_ := Aside0.mk (Kd.C_drew HR414_1.out)
            have n7_ := Aside0.mk (Kd.C_drew HR415_1.out)
            have n8_ := Aside0.mk (Kd.C_drew HR419_1.out)
            have n9_ := Aside0.mk (Kd.C_drew HR420_1.out)
            have n10_ := Aside0.mk (below_drew1 HB.out)
            clear HO_5
            clear HO_6
            clear HL414_1
            clear HL415_1
            clear HL419_1
            clear HL420_1
            clear HR414_1
            clear HR415_1
            clear HR419_1
            clear HR420_1
            clear HB
            have HO_5 := n0_
            have HO_6 := n1_
            have HL414_1 := n2_
            have HL415_1 := n3_
            have HL419_1 := n4_
            have HL420_1 := n5_
            have HR414_1 := n6_
            have HR415_1 := n7_
            have HR419_1 := n8_
            have HR420_1 := n9_
            have HB := n10_
            clear n0_ n1_ n2_ n3_ n4_ n5_ n6_ n7_ n8_ n9_ n10_
            have p421 : 0 ≤ (x13_4 : Int) := of_decide_eq_true (by first | (with_reducible assumption) | assumption)
            have q421 : x13_4 < (t389.length : Int) := of_decide_eq_true (by first | (with_reducible assumption) | assumption)
            obtain ⟨ad421, A421_1, c421_1, e421, hx421_0, hx421_1, hx421_2, hl421_1, hi421_1⟩ := at_T36 (Kd.S_reads' HO_5.out).2.2 x13_4 p421 q421
            obtain rfl : ad414 = ad421 := (by injection e421)
            obtain ⟨ce421, hce421, hMe421, hcc421⟩ := Kd.S_get HO_5.out z36 x13_4 p421 (by first | exact q421 | exact of_decide_eq_true (by first | (with_reducible assumption) | assumption) | (have e_ := (Kd.S_reads' HO_5.out).1; omega))
            obtain ⟨ve421_1, rfl, ge421_1⟩ := k36_openM hMe421
            have hv421_1 := hcc421 1 _ rfl
            rw [add_field _ _ 1 (by omega)] at hv421_1
            replace hv421_1 := Option.some.inj (hv421_1.symm.trans hx421_1)
            rw [hv421_1] at ge421_1
            have HL421_1 := Aside0.mk (show Kd.R (Kd.int .i64) 3 _ _ _ _ ((rd_T36 t389 x13_4).f0.f1) from ge421_1)
            clear hv421_1 ge421_1
            clear hcc421 hce421
            have HR421_1 := Aside0.mk hi421_1
            have HC421_1 := Aside0.mk hl421_1
            clear hi421_1 hl421_1
            replace p421 := eq_true p421
            replace q421 := eq_true q421
            have p422 : 0 ≤ (x11_2 : Int) := of_decide_eq_true (by first | (with_reducible assumption) | assumption)
            have q422 : x11_2 < (t392.length : Int) := of_decide_eq_true (by first | (with_reducible assumption) | assumption)
            obtain ⟨ad422, A422_1, c422_1, e422, hx422_0, hx422_1, hx422_2, hl422_1, hi422_1⟩ := at_T36 (Kd.V_reads' HO_6.out).2.2 x11_2 p422 q422
            obtain rfl : ad415 = ad422 := (by injection e422)
            obtain ⟨ce422, hce422, hMe422, hcc422⟩ := Kd.V_get HO_6.out z36 x11_2 p422 (by first | exact q422 | exact of_decide_eq_true (by first | (with_reducible assumption) | assumption) | (have e_ := (Kd.V_reads' HO_6.out).1; omega))
            obtain ⟨ua422_1, uc422_1, rfl, ul422_1, ge422_1⟩ := k36_openF hMe422
            have hv422_1 := hcc422 1 _ rfl
            rw [add_field _ _ 1 (by omega)] at hv422_1
            replace hv422_1 := Option.some.inj (hv422_1.symm.trans hx422_1)
            injection hv422_1 with hva_ hvn_ hvc_
            rw [hva_] at ge422_1
            rw [hvc_] at ul422_1
            have HL422_1 := Aside0.mk (show Kd.V (Kd.int .i64) 3 _ w.heap.size _ _ ((rd_T36 t392 x11_2).f0.f1) from Kd.V_mk ul422_1 ge422_1)
            clear hva_ hvn_ hvc_ ge422_1 ul422_1
            clear hcc422 hce422
            have HR422_1 := Aside0.mk hi422_1
            have HC422_1 := Aside0.mk hl422_1
            clear hi422_1 hl422_1
            replace p422 := eq_true p422
            replace q422 := eq_true q422
            refine start_ (n := 11) (S := fun w' => w'.cell? (ad414.add ((x13_4).toNat * 3)) = some (.int .i64 ((rd_T36 t389 x13_4).f0.f0)) ∧ w'.cell? ⟨(ad414.add ((x13_4).toNat * 3)).block, (ad414.add ((x13_4).toNat * 3)).off + 1, none⟩ = some (.slice A421_1 ((rd_T36 t389 x13_4).f0.f1).length c421_1) ∧ w'.cell? ⟨(ad414.add ((x13_4).toNat * 3)).block, (ad414.add ((x13_4).toNat * 3)).off + 2, none⟩ = some (.int .i64 ((rd_T36 t389 x13_4).f1)) ∧ w'.cell? (ad415.add ((x11_2).toNat * 3)) = some (.int .i64 ((rd_T36 t392 x11_2).f0.f0)) ∧ w'.cell? ⟨(ad415.add ((x11_2).toNat * 3)).block, (ad415.add ((x11_2).toNat * 3)).off + 1, none⟩ = some (.slice A422_1 ((rd_T36 t392 x11_2).f0.f1).length c422_1) ∧ w'.cell? ⟨(ad415.add ((x11_2).toNat * 3)).block, (ad415.add ((x11_2).toNat * 3)).off + 2, none⟩ = some (.int .i64 ((rd_T36 t392 x11_2).f1))) (ds := []) #[false, false, false, false, false, false, false, false, false, false, false] (by kernel_rfl) rfl rfl ⟨hx421_0, hx421_1, hx421_2, hx422_0, hx422_1, hx422_2⟩ (fun hHeld => ?_); refine with_tabW interlocutorlaw10_RankOrder.tab20 interlocutorlaw10_RankOrder.bits20 (fun HT_ HW_ => ?_)
            generalize w63.drew = w64 at HO_5 HO_6 HL414_1 HL415_1 HL419_1 HL420_1 HR414_1 HR415_1 HR419_1 HR420_1 HB HL421_1 HL422_1 HR421_1 HR422_1 hx421_0 hx421_1 hx421_2 hx422_0 hx422_1 hx422_2 hHeld ⊢
            refine pure_ (i := 0) (N := some 134) (v := ?_) (a' := ?_) #[true, false, false, false, false, false, false, false, false, false, false] rfl rfl (any_of HT_.out (by kernel_rfl)) (fun _ _ _ h => h) (Or.inl ⟨by rfl, ?_⟩) ?_ ?_; rotate_left; (intro w'; go_simp; with_reducible rfl); rotate_left; (simp only [pq5]; rfl)
            refine pure_ (i := 1) (N := some 135) (v := ?_) (a' := ?_) #[true, true, false, false, false, false, false, false, false, false, false] rfl rfl (any_of HT_.out (by kernel_rfl)) (fun _ _ _ h => h) (Or.inl ⟨by rfl, ?_⟩) ?_ ?_; rotate_left; (intro w'; go_simp; with_reducible rfl); rotate_left; (simp only [pq5]; rfl)
            refine pure_ (i := 2) (N := some 136) (v := ?_) (a' := ?_) #[true, true, true, false, false, false, false, false, false, false, false] rfl rfl (any_of HT_.out (by kernel_rfl)) (fun _ _ _ h => h) (Or.inl ⟨by rfl, ?_⟩) ?_ ?_; rotate_left; (intro w'; go_simp; with_reducible rfl); rotate_left; (simp only [pq5]; rfl)
            refine pure_ (i := 3) (N := some 137) (v := ?_) (a' := ?_) #[true, true, true, true, false, false, false, false, false, false, false] rfl rfl (any_of HT_.out (by kernel_rfl)) (fun _ _ _ h => h) (Or.inl ⟨by rfl, ?_⟩) ?_ ?_; rotate_left; (intro w'; go_simp; with_reducible rfl); rotate_left; (simp only [pq5]; rfl)
            refine pure_ (i := 5) (N := some 139) (v := ?_) (a' := ?_) #[true, true, true, true, false, true, false, false, false, false, false] rfl rfl (any_of HT_.out (by kernel_rfl)) (fun _ _ _ h => h) (Or.inl ⟨by rfl, ?_⟩) ?_ ?_; rotate_left; (intro w'; go_simp; with_reducible rfl); rotate_left; (simp only [pq5]; rfl)
            refine pure_ (i := 6) (N := some 140) (v := ?_) (a' := ?_) #[true, true, true, true, false, true, true, false, false, false, false] rfl rfl (any_of HT_.out (by kernel_rfl)) (fun _ _ _ h => h) (Or.inl ⟨by rfl, ?_⟩) ?_ ?_; rotate_left; (intro w'; go_simp; with_reducible rfl); rotate_left; (simp only [pq5]; rfl)
            refine pure_ (i := 7) (N := some 141) (v := ?_) (a' := ?_) #[true, true, true, true, false, true, true, true, false, false, false] rfl rfl (any_of HT_.out (by kernel_rfl)) (fun _ _ _ h => h) (Or.inl ⟨by rfl, ?_⟩) ?_ ?_; rotate_left; (intro w'; go_simp; with_reducible rfl); rotate_left; (simp only [pq5]; rfl)
            refine pure_ (i := 8) (N := some 142) (v := ?_) (a' := ?_) #[true, true, true, true, false, true, true, true, true, false, false] rfl rfl (any_of HT_.out (by kernel_rfl)) (fun _ _ _ h => h) (Or.inl ⟨by rfl, ?_⟩) ?_ ?_; rotate_left; (intro w'; go_simp; with_reducible rfl); rotate_left; (simp only [pq5]; rfl)
            refine take_ (i := 4) (N := some 138) (v := ?_) (a' := ?_) #[true, true, true, true, true, true, true, true, true, false, false] rfl rfl (take_ofW HT_.out HW_.out (by kernel_rfl)) (fun _ _ _ h => h) (Or.inl ⟨by rfl, ?_⟩) hHeld ?_ ?_
            rotate_left
            · rintro w' ⟨s0, s1, s2, s3, s4, s5⟩
              go_simp
              with_reducible rfl
            rotate_left
            · simp only [pq5]
              rfl
            refine take_ (i := 9) (N := some 143) (v := ?_) (a' := ?_) #[true, true, true, true, true, true, true, true, true, true, false] rfl rfl (take_ofW HT_.out HW_.out (by kernel_rfl)) (fun _ _ _ h => h) (Or.inl ⟨by rfl, ?_⟩) hHeld ?_ ?_
            rotate_left
            · rintro w' ⟨s0, s1, s2, s3, s4, s5⟩
              go_simp
              with_reducible rfl
            rotate_left
            · simp only [pq5]
              rfl
            refine pure_ (i := 10) (N := some 144) (v := ?_) (a' := ?_) #[true, true, true, true, true, true, true, true, true, true, true] rfl rfl (any_of HT_.out (by kernel_rfl)) (fun _ _ _ h => h) (Or.inl ⟨by rfl, ?_⟩) ?_ ?_; rotate_left; (intro w'; go_simp; with_reducible rfl); rotate_left; (simp only [pq5]; rfl)
            refine done_ (done_of HT_.out (by kernel_rfl)) ?_
            try go_wp2
            go_ret
            exact ⟨by first | rfl | (simp [errW_none, errW_some] <;> rfl) | (simp [*, errW_none, errW_some] <;> rfl), by repeat (first | (with_reducible first | exact HB.out | apply below_alloc | apply pw_below_drewN | apply below_drew1) | exact HB.out)⟩
          rw [if_neg c60] at H
          have c60b0 : decide (((rd_T36 t389 x13_4).f1) < ((rd_T36 t392 x11_2).f1)) = false := decide_eq_false c60
          clear c60
          have H' := Aside0.mk H
          clear H
          try go_wp2
          have n0_ := Aside0.mk (Kd.S_drew HO_5.out)
          have n1_ := Aside0.mk (Kd.V_drew HO_6.out)
          have n2_ := Aside0.mk (below_drew1 HB.out)
          clear HO_5
          clear HO_6
          clear HB
          have HO_5 := n0_
          have HO_6 := n1_
          have HB := n2_
          clear n0_ n1_ n2_
          have p414 : 0 ≤ (x13_4 : Int) := of_decide_eq_true (by first | (with_reducible assumption) | assumption)
          have q414 : x13_4 < (t389.length : Int) := of_decide_eq_true (by first | (with_reducible assumption) | assumption)
          obtain ⟨ad414, A414_1, c414_1, e414, hx414_0, hx414_1, hx414_2, hl414_1, hi414_1⟩ := at_T36 (Kd.S_reads' HO_5.out).2.2 x13_4 p414 q414
          cases e414
          obtain ⟨ce414, hce414, hMe414, hcc414⟩ := Kd.S_get HO_5.out z36 x13_4 p414 (by first | exact q414 | exact of_decide_eq_true (by first | (with_reducible assumption) | assumption) | (have e_ := (Kd.S_reads' HO_5.out).1; omega))
          obtain ⟨ve414_1, rfl, ge414_1⟩ := k36_openM hMe414
          have hv414_1 := hcc414 1 _ rfl
          rw [add_field _ _ 1 (by omega)] at hv414_1
          replace hv414_1 := Option.some.inj (hv414_1.symm.trans hx414_1)
          rw [hv414_1] at ge414_1
          have HL414_1 := Aside0.mk (show Kd.R (Kd.int .i64) 3 _ _ _ _ ((rd_T36 t389 x13_4).f0.f1) from ge414_1)
          clear hv414_1 ge414_1
          clear hcc414 hce414
          have HR414_1 := Aside0.mk hi414_1
          have HC414_1 := Aside0.mk hl414_1
          clear hi414_1 hl414_1
          replace p414 := eq_true p414
          replace q414 := eq_true q414
          have p415 : 0 ≤ (x11_2 : Int) := of_decide_eq_true (by first | (with_reducible assumption) | assumption)
          have q415 : x11_2 < (t392.length : Int) := of_decide_eq_true (by first | (with_reducible assumption) | assumption)
          obtain ⟨ad415, A415_1, c415_1, e415, hx415_0, hx415_1, hx415_2, hl415_1, hi415_1⟩ := at_T36 (Kd.V_reads' HO_6.out).2.2 x11_2 p415 q415
          cases e415
          obtain ⟨ce415, hce415, hMe415, hcc415⟩ := Kd.V_get HO_6.out z36 x11_2 p415 (by first | exact q415 | exact of_decide_eq_true (by first | (with_reducible assumption) | assumption) | (have e_ := (Kd.V_reads' HO_6.out).1; omega))
          obtain ⟨ua415_1, uc415_1, rfl, ul415_1, ge415_1⟩ := k36_openF hMe415
          have hv415_1 := hcc415 1 _ rfl
          rw [add_field _ _ 1 (by omega)] at hv415_1
          replace hv415_1 := Option.some.inj (hv415_1.symm.trans hx415_1)
          injection hv415_1 with hva_ hvn_ hvc_
          rw [hva_] at ge415_1
          rw [hvc_] at ul415_1
          have HL415_1 := Aside0.mk (show Kd.V (Kd.int .i64) 3 _ w.heap.size _ _ ((rd_T36 t392 x11_2).f0.f1) from Kd.V_mk ul415_1 ge415_1)
          clear hva_ hvn_ hvc_ ge415_1 ul415_1
          clear hcc415 hce415
          have HR415_1 := Aside0.mk hi415_1
          have HC415_1 := Aside0.mk hl415_1
          clear hi415_1 hl415_1
          replace p415 := eq_true p415
          replace q415 := eq_true q415
          refine start_ (n := 12) (S := fun w' => w'.cell? (ad414.add ((x13_4).toNat * 3)) = some (.int .i64 ((rd_T36 t389 x13_4).f0.f0)) ∧ w'.cell? ⟨(ad414.add ((x13_4).toNat * 3)).block, (ad414.add ((x13_4).toNat * 3)).off + 1, none⟩ = some (.slice A414_1 ((rd_T36 t389 x13_4).f0.f1).length c414_1) ∧ w'.cell? ⟨(ad414.add ((x13_4).toNat * 3)).block, (ad414.add ((x13_4).toNat * 3)).off + 2, none⟩ = some (.int .i64 ((rd_T36 t389 x13_4).f1)) ∧ w'.cell? (ad415.add ((x11_2).toNat * 3)) = some (.int .i64 ((rd_T36 t392 x11_2).f0.f0)) ∧ w'.cell? ⟨(ad415.add ((x11_2).toNat * 3)).block, (ad415.add ((x11_2).toNat * 3)).off + 1, none⟩ = some (.slice A415_1 ((rd_T36 t392 x11_2).f0.f1).length c415_1) ∧ w'.cell? ⟨(ad415.add ((x11_2).toNat * 3)).block, (ad415.add ((x11_2).toNat * 3)).off + 2, none⟩ = some (.int .i64 ((rd_T36 t392 x11_2).f1))) (ds := []) #[N5,N5,N5,N5,N5,N5,N5,N5,N5,N5,N5,N5] (by kernel_rfl) rfl rfl ⟨hx414_0, hx414_1, hx414_2, hx415_0, hx415_1, hx415_2⟩ (fun hHeld => ?_); refine with_tabW interlocutorlaw10_RankOrder.tab18 interlocutorlaw10_RankOrder.bits18 (fun HT_ HW_ => ?_)
          generalize wr.drew = w65 at HO_5 HO_6 HB HL414_1 HL415_1 HR414_1 HR415_1 hx414_0 hx414_1 hx414_2 hx415_0 hx415_1 hx415_2 hHeld ⊢
          refine pure_ (i := 0) (N := some 108) (v := ?_) (a' := ?_) #[Y5,N5,N5,N5,N5,N5,N5,N5,N5,N5,N5,N5] rfl rfl (any_of HT_.out (by kernel_rfl)) (fun _ _ _ h => h) (Or.inl ⟨by rfl, ?_⟩) ?_ ?_; rotate_left; (intro w'; go_simp; with_reducible rfl); rotate_left; (simp only [pq5]; rfl)
          refine pure_ (i := 1) (N := some 109) (v := ?_) (a' := ?_) #[Y5,Y5,N5,N5,N5,N5,N5,N5,N5,N5,N5,N5] rfl rfl (any_of HT_.out (by kernel_rfl)) (fun _ _ _ h => h) (Or.inl ⟨by rfl, ?_⟩) ?_ ?_; rotate_left; (intro w'; go_simp; with_reducible rfl); rotate_left; (simp only [pq5]; rfl)
          refine pure_ (i := 2) (N := some 110) (v := ?_) (a' := ?_) #[Y5,Y5,Y5,N5,N5,N5,N5,N5,N5,N5,N5,N5] rfl rfl (any_of HT_.out (by kernel_rfl)) (fun _ _ _ h => h) (Or.inl ⟨by rfl, ?_⟩) ?_ ?_; rotate_left; (intro w'; go_simp; with_reducible rfl); rotate_left; (simp only [pq5]; rfl)
          refine pure_ (i := 3) (N := some 111) (v := ?_) (a' := ?_) #[Y5,Y5,Y5,Y5,N5,N5,N5,N5,N5,N5,N5,N5] rfl rfl (any_of HT_.out (by kernel_rfl)) (fun _ _ _ h => h) (Or.inl ⟨by rfl, ?_⟩) ?_ ?_; rotate_left; (intro w'; go_simp; with_reducible rfl); rotate_left; (simp only [pq5]; rfl)
          refine pure_ (i := 5) (N := some 113) (v := ?_) (a' := ?_) #[Y5,Y5,Y5,Y5,N5,Y5,N5,N5,N5,N5,N5,N5] rfl rfl (any_of HT_.out (by kernel_rfl)) (fun _ _ _ h => h) (Or.inl ⟨by rfl, ?_⟩) ?_ ?_; rotate_left; (intro w'; go_simp; with_reducible rfl); rotate_left; (simp only [pq5]; rfl)
          refine pure_ (i := 6) (N := some 114) (v := ?_) (a' := ?_) #[Y5,Y5,Y5,Y5,N5,Y5,Y5,N5,N5,N5,N5,N5] rfl rfl (any_of HT_.out (by kernel_rfl)) (fun _ _ _ h => h) (Or.inl ⟨by rfl, ?_⟩) ?_ ?_; rotate_left; (intro w'; go_simp; with_reducible rfl); rotate_left; (simp only [pq5]; rfl)
          refine pure_ (i := 7) (N := some 115) (v := ?_) (a' := ?_) #[Y5,Y5,Y5,Y5,N5,Y5,Y5,Y5,N5,N5,N5,N5] rfl rfl (any_of HT_.out (by kernel_rfl)) (fun _ _ _ h => h) (Or.inl ⟨by rfl, ?_⟩) ?_ ?_; rotate_left; (intro w'; go_simp; with_reducible rfl); rotate_left; (simp only [pq5]; rfl)
          refine pure_ (i := 8) (N := some 116) (v := ?_) (a' := ?_) #[Y5,Y5,Y5,Y5,N5,Y5,Y5,Y5,Y5,N5,N5,N5] rfl rfl (any_of HT_.out (by kernel_rfl)) (fun _ _ _ h => h) (Or.inl ⟨by rfl, ?_⟩) ?_ ?_; rotate_left; (intro w'; go_simp; with_reducible rfl); rotate_left; (simp only [pq5]; rfl)
          refine take_ (i := 4) (N := some 112) (v := ?_) (a' := ?_) #[Y5,Y5,Y5,Y5,Y5,Y5,Y5,Y5,Y5,N5,N5,N5] rfl rfl (take_ofW HT_.out HW_.out (by kernel_rfl)) (fun _ _ _ h => h) (Or.inl ⟨by rfl, ?_⟩) hHeld ?_ ?_
          rotate_left
          · rintro w' ⟨s0, s1, s2, s3, s4, s5⟩
            go_simp
            with_reducible rfl
          rotate_left
          · simp only [pq5]
            rfl
          refine take_ (i := 9) (N := some 117) (v := ?_) (a' := ?_) #[Y5,Y5,Y5,Y5,Y5,Y5,Y5,Y5,Y5,Y5,N5,N5] rfl rfl (take_ofW HT_.out HW_.out (by kernel_rfl)) (fun _ _ _ h => h) (Or.inl ⟨by rfl, ?_⟩) hHeld ?_ ?_
          rotate_left
          · rintro w' ⟨s0, s1, s2, s3, s4, s5⟩
            go_simp
            with_reducible rfl
          rotate_left
          · simp only [pq5]
            rfl
          refine one_ (i := 10) (N := some 118) #[Y5,Y5,Y5,Y5,Y5,Y5,Y5,Y5,Y5,Y5,Y5,N5] rfl rfl (one_of HT_.out (by kernel_rfl)) (by decide) (fun K hK => ?_)
          refine goes_ Tryd.func15 (by kernel_rfl) rfl #[.agg #[.int .i64 ((rd_T36 t389 x13_4).f0.f0), .slice A414_1 ((rd_T36 t389 x13_4).f0.f1).length c414_1], .agg #[.int .i64 ((rd_T36 t392 x11_2).f0.f0), .slice A415_1 ((rd_T36 t392 x11_2).f0.f1).length c415_1]] (by rfl) rfl rfl (by (try simp only [List.map_toArray, List.map_cons, List.map_nil]); first | done | rfl | (simp only [List.length_drop, List.length_take]; rfl)) ?_
          with_reducible refine (interlocutorref10_Cmp.calls k4 ((rd_T36 t389 x13_4).f0.f0) _ _ ((rd_T36 t389 x13_4).f0.f1) ((rd_T36 t392 x11_2).f0.f0) _ _ ((rd_T36 t392 x11_2).f0.f1) t416 _ ?side1 ?side2 ?side3 ?side4 A48.out).mono ?_
          (case side1 => repeat (first | exact (by repeat (first | (with_reducible exact HR414_1.out) | (with_reducible refine Kd.C_alloc ?_ _) | (with_reducible refine Kd.C_drewN ?_ _) | (with_reducible refine Kd.C_drew ?_) | exact HR414_1.out)) | (with_reducible refine Kd.C_alloc ?_ _) | (with_reducible refine Kd.C_drewN ?_ _) | (with_reducible refine Kd.C_drew ?_)))
          (case side2 => exact HC414_1.out)
          (case side3 => repeat (first | exact (by repeat (first | (with_reducible exact HR415_1.out) | (with_reducible refine Kd.C_alloc ?_ _) | (with_reducible refine Kd.C_drewN ?_ _) | (with_reducible refine Kd.C_drew ?_) | exact HR415_1.out)) | (with_reducible refine Kd.C_alloc ?_ _) | (with_reducible refine Kd.C_drewN ?_ _) | (with_reducible refine Kd.C_drew ?_)))
          (case side4 => exact HC415_1.out)
          rintro e w66 ⟨rfl, hb⟩
          have HS0_ := (hb.cell (World.block_lt_of_cell? _ _ (hHeld.1))).trans (hHeld.1)
          have HS1_ := (hb.cell (World.block_lt_of_cell? _ _ (hHeld.2.1))).trans (hHeld.2.1)
          have HS2_ := (hb.cell (World.block_lt_of_cell? _ _ (hHeld.2.2.1))).trans (hHeld.2.2.1)
          have HS3_ := (hb.cell (World.block_lt_of_cell? _ _ (hHeld.2.2.2.1))).trans (hHeld.2.2.2.1)
          have HS4_ := (hb.cell (World.block_lt_of_cell? _ _ (hHeld.2.2.2.2.1))).trans (hHeld.2.2.2.2.1)
          have HS5_ := (hb.cell (World.block_lt_of_cell? _ _ (hHeld.2.2.2.2.2))).trans (hHeld.2.2.2.2.2)
          refine ⟨_, rfl, ?_⟩
          have n0_ := Aside0.mk (Kd.S_below (by (with_reducible repeat (first | apply Kd.S_alloc | apply Kd.S_drewN | apply Kd.S_drew)); exact HO_5.out) hb)
          have n1_ := Aside0.mk (Kd.V_below (by (with_reducible repeat (first | apply Kd.V_alloc | apply Kd.V_drewN | apply Kd.V_drew)); exact HO_6.out) hb)
          have n2_ := Aside0.mk (Kd.R_below (by (with_reducible repeat (first | apply Kd.R_alloc | apply Kd.R_drewN | apply Kd.R_drew)); exact HL414_1.out) hb)
          have n3_ := Aside0.mk (Kd.V_below (by (with_reducible repeat (first | apply Kd.V_alloc | apply Kd.V_drewN | apply Kd.V_drew)); exact HL415_1.out) hb)
          have n4_ := Aside0.mk (Kd.C_below (by repeat (first | (with_reducible exact HR414_1.out) | (with_reducible refine Kd.C_alloc ?_ _) | (with_reducible refine Kd.C_drewN ?_ _) | (with_reducible refine Kd.C_drew ?_) | exact HR414_1.out)) hb)
          have n5_ := Aside0.mk (Kd.C_below (by repeat (first | (with_reducible exact HR415_1.out) | (with_reducible refine Kd.C_alloc ?_ _) | (with_reducible refine Kd.C_drewN ?_ _) | (with_reducible refine Kd.C_drew ?_) | exact HR415_1.out)) hb)
          have n6_ := Aside0.mk (below_step (by repeat (first | (with_reducible first | exact HB.out | apply below_alloc | apply pw_below_drewN | apply below_drew1) | exact HB.out)) hb)
          clear HO_5
          clear HO_6
          clear HL414_1
          clear HL415_1
          clear HR414_1
          clear HR415_1
          clear HB
          have HO_5 := n0_
          have HO_6 := n1_
          have HL414_1 := n2_
          have HL415_1 := n3_
          have HR414_1 := n4_
          have HR415_1 := n5_
          have HB := n6_
          clear n0_ n1_ n2_ n3_ n4_ n5_ n6_
          (try clear hb)
          (try clear hb2)
          (try clear hk)
          (try clear hi)
          refine hK.out _ _ ⟨HS0_, HS1_, HS2_, HS3_, HS4_, HS5_⟩ (fun hHeld => ?_)
          clear hK K
          refine norm_ (a' := ?_) ?_ ?_
          rotate_left
          · show Act.put _ (some 118) _ = _
            simp only [pq5]
            rfl
          refine pure_ (i := 11) (N := some 119) (v := ?_) (a' := ?_) #[Y5,Y5,Y5,Y5,Y5,Y5,Y5,Y5,Y5,Y5,Y5,Y5] rfl rfl (any_of HT_.out (by kernel_rfl)) (fun _ _ _ h => h) (Or.inl ⟨by rfl, ?_⟩) ?_ ?_; rotate_left; (intro w'; go_simp; with_reducible rfl); rotate_left; (simp only [pq5]; rfl)
          refine done_ (done_of HT_.out (by kernel_rfl)) ?_
          try go_wp2
          have n0_ := Aside0.mk (Kd.S_drew HO_5.out)
          have n1_ := Aside0.mk (Kd.V_drew HO_6.out)
          have n2_ := Aside0.mk (Kd.R_drew HL414_1.out)
          have n3_ := Aside0.mk (Kd.V_drew HL415_1.out)
          have n4_ := Aside0.mk (Kd.C_drew HR414_1.out)
          have n5_ := Aside0.mk (Kd.C_drew HR415_1.out)
          have n6_ := Aside0.mk (below_drew1 HB.out)
          clear HO_5
          clear HO_6
          clear HL414_1
          clear HL415_1
          clear HR414_1
          clear HR415_1
          clear HB
          have HO_5 := n0_
          have HO_6 := n1_
          have HL414_1 := n2_
          have HL415_1 := n3_
          have HR414_1 := n4_
          have HR415_1 := n5_
          have HB := n6_
          clear n0_ n1_ n2_ n3_ n4_ n5_ n6_
          have p419 : 0 ≤ (x13_4 : Int) := of_decide_eq_true (by first | (with_reducible assumption) | assumption)
          have q419 : x13_4 < (t389.length : Int) := of_decide_eq_true (by first | (with_reducible assumption) | assumption)
          obtain ⟨ad419, A419_1, c419_1, e419, hx419_0, hx419_1, hx419_2, hl419_1, hi419_1⟩ := at_T36 (Kd.S_reads' HO_5.out).2.2 x13_4 p419 q419
          obtain rfl : ad414 = ad419 := (by injection e419)
          obtain ⟨ce419, hce419, hMe419, hcc419⟩ := Kd.S_get HO_5.out z36 x13_4 p419 (by first | exact q419 | exact of_decide_eq_true (by first | (with_reducible assumption) | assumption) | (have e_ := (Kd.S_reads' HO_5.out).1; omega))
          obtain ⟨ve419_1, rfl, ge419_1⟩ := k36_openM hMe419
          have hv419_1 := hcc419 1 _ rfl
          rw [add_field _ _ 1 (by omega)] at hv419_1
          replace hv419_1 := Option.some.inj (hv419_1.symm.trans hx419_1)
          rw [hv419_1] at ge419_1
          have HL419_1 := Aside0.mk (show Kd.R (Kd.int .i64) 3 _ _ _ _ ((rd_T36 t389 x13_4).f0.f1) from ge419_1)
          clear hv419_1 ge419_1
          clear hcc419 hce419
          have HR419_1 := Aside0.mk hi419_1
          have HC419_1 := Aside0.mk hl419_1
          clear hi419_1 hl419_1
          replace p419 := eq_true p419
          replace q419 := eq_true q419
          have p420 : 0 ≤ (x11_2 : Int) := of_decide_eq_true (by first | (with_reducible assumption) | assumption)
          have q420 : x11_2 < (t392.length : Int) := of_decide_eq_true (by first | (with_reducible assumption) | assumption)
          obtain ⟨ad420, A420_1, c420_1, e420, hx420_0, hx420_1, hx420_2, hl420_1, hi420_1⟩ := at_T36 (Kd.V_reads' HO_6.out).2.2 x11_2 p420 q420
          obtain rfl : ad415 = ad420 := (by injection e420)
          obtain ⟨ce420, hce420, hMe420, hcc420⟩ := Kd.V_get HO_6.out z36 x11_2 p420 (by first | exact q420 | exact of_decide_eq_true (by first | (with_reducible assumption) | assumption) | (have e_ := (Kd.V_reads' HO_6.out).1; omega))
          obtain ⟨ua420_1, uc420_1, rfl, ul420_1, ge420_1⟩ := k36_openF hMe420
          have hv420_1 := hcc420 1 _ rfl
          rw [add_field _ _ 1 (by omega)] at hv420_1
          replace hv420_1 := Option.some.inj (hv420_1.symm.trans hx420_1)
          injection hv420_1 with hva_ hvn_ hvc_
          rw [hva_] at ge420_1
          rw [hvc_] at ul420_1
          have HL420_1 := Aside0.mk (show Kd.V (Kd.int .i64) 3 _ w.heap.size _ _ ((rd_T36 t392 x11_2).f0.f1) from Kd.V_mk ul420_1 ge420_1)
          clear hva_ hvn_ hvc_ ge420_1 ul420_1
          clear hcc420 hce420
          have HR420_1 := Aside0.mk hi420_1
          have HC420_1 := Aside0.mk hl420_1
          clear hi420_1 hl420_1
          replace p420 := eq_true p420
          replace q420 := eq_true q420
          refine start_ (n := 15) (S := fun w' => w'.cell? (ad414.add ((x13_4).toNat * 3)) = some (.int .i64 ((rd_T36 t389 x13_4).f0.f0)) ∧ w'.cell? ⟨(ad414.add ((x13_4).toNat * 3)).block, (ad414.add ((x13_4).toNat * 3)).off + 1, none⟩ = some (.slice A419_1 ((rd_T36 t389 x13_4).f0.f1).length c419_1) ∧ w'.cell? ⟨(ad414.add ((x13_4).toNat * 3)).block, (ad414.add ((x13_4).toNat * 3)).off + 2, none⟩ = some (.int .i64 ((rd_T36 t389 x13_4).f1)) ∧ w'.cell? (ad415.add ((x11_2).toNat * 3)) = some (.int .i64 ((rd_T36 t392 x11_2).f0.f0)) ∧ w'.cell? ⟨(ad415.add ((x11_2).toNat * 3)).block, (ad415.add ((x11_2).toNat * 3)).off + 1, none⟩ = some (.slice A420_1 ((rd_T36 t392 x11_2).f0.f1).length c420_1) ∧ w'.cell? ⟨(ad415.add ((x11_2).toNat * 3)).block, (ad415.add ((x11_2).toNat * 3)).off + 2, none⟩ = some (.int .i64 ((rd_T36 t392 x11_2).f1))) (ds := []) #[N5,N5,N5,N5,N5,N5,N5,N5,N5,N5,N5,N5,N5,N5,N5] (by kernel_rfl) rfl rfl ⟨hx419_0, hx419_1, hx419_2, hx420_0, hx420_1, hx420_2⟩ (fun hHeld => ?_); refine with_tabW interlocutorlaw10_RankOrder.tab19 interlocutorlaw10_RankOrder.bits19 (fun HT_ HW_ => ?_)
          generalize w66.drew = w67 at HO_5 HO_6 HL414_1 HL415_1 HR414_1 HR415_1 HB HL419_1 HL420_1 HR419_1 HR420_1 hx419_0 hx419_1 hx419_2 hx420_0 hx420_1 hx420_2 hHeld ⊢
          refine pure_ (i := 0) (N := some 120) (v := ?_) (a' := ?_) #[Y5,N5,N5,N5,N5,N5,N5,N5,N5,N5,N5,N5,N5,N5,N5] rfl rfl (any_of HT_.out (by kernel_rfl)) (fun _ _ _ h => h) (Or.inl ⟨by rfl, ?_⟩) ?_ ?_; rotate_left; (intro w'; go_simp; with_reducible rfl); rotate_left; (simp only [pq5]; rfl)
          refine pure_ (i := 1) (N := some 121) (v := ?_) (a' := ?_) #[Y5,Y5,N5,N5,N5,N5,N5,N5,N5,N5,N5,N5,N5,N5,N5] rfl rfl (any_of HT_.out (by kernel_rfl)) (fun _ _ _ h => h) (Or.inl ⟨by rfl, ?_⟩) ?_ ?_; rotate_left; (intro w'; go_simp; with_reducible rfl); rotate_left; (simp only [pq5]; rfl)
          refine pure_ (i := 2) (N := some 122) (v := ?_) (a' := ?_) #[Y5,Y5,Y5,N5,N5,N5,N5,N5,N5,N5,N5,N5,N5,N5,N5] rfl rfl (any_of HT_.out (by kernel_rfl)) (fun _ _ _ h => h) (Or.inl ⟨by rfl, ?_⟩) ?_ ?_; rotate_left; (intro w'; go_simp; with_reducible rfl); rotate_left; (simp only [pq5]; rfl)
          refine pure_ (i := 3) (N := some 123) (v := ?_) (a' := ?_) #[Y5,Y5,Y5,Y5,N5,N5,N5,N5,N5,N5,N5,N5,N5,N5,N5] rfl rfl (any_of HT_.out (by kernel_rfl)) (fun _ _ _ h => h) (Or.inl ⟨by rfl, ?_⟩) ?_ ?_; rotate_left; (intro w'; go_simp; with_reducible rfl); rotate_left; (simp only [pq5]; rfl)
          refine pure_ (i := 4) (N := some 124) (v := ?_) (a' := ?_) #[Y5,Y5,Y5,Y5,Y5,N5,N5,N5,N5,N5,N5,N5,N5,N5,N5] rfl rfl (any_of HT_.out (by kernel_rfl)) (fun _ _ _ h => h) (Or.inl ⟨by rfl, ?_⟩) ?_ ?_; rotate_left; (intro w'; go_simp; with_reducible rfl); rotate_left; (simp only [pq5]; rfl)
          refine pure_ (i := 5) (N := some 125) (v := ?_) (a' := ?_) #[Y5,Y5,Y5,Y5,Y5,Y5,N5,N5,N5,N5,N5,N5,N5,N5,N5] rfl rfl (any_of HT_.out (by kernel_rfl)) (fun _ _ _ h => h) (Or.inl ⟨by rfl, ?_⟩) ?_ ?_; rotate_left; (intro w'; go_simp; with_reducible rfl); rotate_left; (simp only [pq5]; rfl)
          refine pure_ (i := 7) (N := some 127) (v := ?_) (a' := ?_) #[Y5,Y5,Y5,Y5,Y5,Y5,N5,Y5,N5,N5,N5,N5,N5,N5,N5] rfl rfl (any_of HT_.out (by kernel_rfl)) (fun _ _ _ h => h) (Or.inl ⟨by rfl, ?_⟩) ?_ ?_; rotate_left; (intro w'; go_simp; with_reducible rfl); rotate_left; (simp only [pq5]; rfl)
          refine pure_ (i := 8) (N := some 128) (v := ?_) (a' := ?_) #[Y5,Y5,Y5,Y5,Y5,Y5,N5,Y5,Y5,N5,N5,N5,N5,N5,N5] rfl rfl (any_of HT_.out (by kernel_rfl)) (fun _ _ _ h => h) (Or.inl ⟨by rfl, ?_⟩) ?_ ?_; rotate_left; (intro w'; go_simp; with_reducible rfl); rotate_left; (simp only [pq5]; rfl)
          refine pure_ (i := 9) (N := some 129) (v := ?_) (a' := ?_) #[Y5,Y5,Y5,Y5,Y5,Y5,N5,Y5,Y5,Y5,N5,N5,N5,N5,N5] rfl rfl (any_of HT_.out (by kernel_rfl)) (fun _ _ _ h => h) (Or.inl ⟨by rfl, ?_⟩) ?_ ?_; rotate_left; (intro w'; go_simp; with_reducible rfl); rotate_left; (simp only [pq5]; rfl)
          refine pure_ (i := 10) (N := some 130) (v := ?_) (a' := ?_) #[Y5,Y5,Y5,Y5,Y5,Y5,N5,Y5,Y5,Y5,Y5,N5,N5,N5,N5] rfl rfl (any_of HT_.out (by kernel_rfl)) (fun _ _ _ h => h) (Or.inl ⟨by rfl, ?_⟩) ?_ ?_; rotate_left; (intro w'; go_simp; with_reducible rfl); rotate_left; (simp only [pq5]; rfl)
          refine take_ (i := 6) (N := some 126) (v := ?_) (a' := ?_) #[Y5,Y5,Y5,Y5,Y5,Y5,Y5,Y5,Y5,Y5,Y5,N5,N5,N5,N5] rfl rfl (take_ofW HT_.out HW_.out (by kernel_rfl)) (fun _ _ _ h => h) (Or.inl ⟨by rfl, ?_⟩) hHeld ?_ ?_
          rotate_left
          · rintro w' ⟨s0, s1, s2, s3, s4, s5⟩
            go_simp
            with_reducible rfl
          rotate_left
          · simp only [pq5]
            rfl
          refine take_ (i := 11) (N := some 131) (v := ?_) (a' := ?_) #[Y5,Y5,Y5,Y5,Y5,Y5,Y5,Y5,Y5,Y5,Y5,Y5,N5,N5,N5] rfl rfl (take_ofW HT_.out HW_.out (by kernel_rfl)) (fun _ _ _ h => h) (Or.inl ⟨by rfl, ?_⟩) hHeld ?_ ?_
          rotate_left
          · rintro w' ⟨s0, s1, s2, s3, s4, s5⟩
            go_simp
            with_reducible rfl
          rotate_left
          · simp only [pq5]
            rfl
          refine pure_ (i := 12) (N := some 132) (v := ?_) (a' := ?_) #[Y5,Y5,Y5,Y5,Y5,Y5,Y5,Y5,Y5,Y5,Y5,Y5,Y5,N5,N5] rfl rfl (any_of HT_.out (by kernel_rfl)) (fun _ _ _ h => h) (Or.inl ⟨by rfl, ?_⟩) ?_ ?_; rotate_left; (intro w'; go_simp; with_reducible rfl); rotate_left; (simp only [pq5]; rfl)
          refine pure_ (i := 13) (N := some 133) (v := ?_) (a' := ?_) #[Y5,Y5,Y5,Y5,Y5,Y5,Y5,Y5,Y5,Y5,Y5,Y5,Y5,Y5,N5] rfl rfl (any_of HT_.out (by kernel_rfl)) (fun _ _ _ h => h) (Or.inl ⟨by rfl, ?_⟩) ?_ ?_; rotate_left; (intro w'; go_simp; with_reducible rfl); rotate_left; (simp only [pq5]; rfl)
          refine pure_ (i := 14) (N := some 12) (v := ?_) (a' := ?_) #[Y5,Y5,Y5,Y5,Y5,Y5,Y5,Y5,Y5,Y5,Y5,Y5,Y5,Y5,Y5] rfl rfl (any_of HT_.out (by kernel_rfl)) (fun _ _ _ h => h) (Or.inl ⟨by rfl, ?_⟩) ?_ ?_; rotate_left; (intro w'; go_simp; with_reducible rfl); rotate_left; (simp only [pq5]; rfl)
          refine done_ (done_of HT_.out (by kernel_rfl)) ?_
          try go_wp2
          have n0_ := Aside0.mk (Kd.S_drew HO_5.out)
          have n1_ := Aside0.mk (Kd.V_drew HO_6.out)
          have n2_ := Aside0.mk (Kd.R_drew HL414_1.out)
          have n3_ := Aside0.mk (Kd.V_drew HL415_1.out)
          have n4_ := Aside0.mk (Kd.R_drew HL419_1.out)
          have n5_ := Aside0.mk (Kd.V_drew HL420_1.out)
          have n6_ := Aside0.mk (Kd.C_drew HR414_1.out)
          have n7_ := Aside0.mk (Kd.C_drew HR415_1.out)
          have n8_ := Aside0.mk (Kd.C_drew HR419_1.out)
          have n9_ := Aside0.mk (Kd.C_drew HR420_1.out)
          have n10_ := Aside0.mk (below_drew1 HB.out)
          clear HO_5
          clear HO_6
          clear HL414_1
          clear HL415_1
          clear HL419_1
          clear HL420_1
          clear HR414_1
          clear HR415_1
          clear HR419_1
          clear HR420_1
          clear HB
          have HO_5 := n0_
          have HO_6 := n1_
          have HL414_1 := n2_
          have HL415_1 := n3_
          have HL419_1 := n4_
          have HL420_1 := n5_
          have HR414_1 := n6_
          have HR415_1 := n7_
          have HR419_1 := n8_
          have HR420_1 := n9_
          have HB := n10_
          clear n0_ n1_ n2_ n3_ n4_ n5_ n6_ n7_ n8_ n9_ n10_
          have p421 : 0 ≤ (x13_4 : Int) := of_decide_eq_true (by first | (with_reducible assumption) | assumption)
          have q421 : x13_4 < (t389.length : Int) := of_decide_eq_true (by first | (with_reducible assumption) | assumption)
          obtain ⟨ad421, A421_1, c421_1, e421, hx421_0, hx421_1, hx421_2, hl421_1, hi421_1⟩ := at_T36 (Kd.S_reads' HO_5.out).2.2 x13_4 p421 q421
          obtain rfl : ad414 = ad421 := (by injection e421)
          obtain ⟨ce421, hce421, hMe421, hcc421⟩ := Kd.S_get HO_5.out z36 x13_4 p421 (by first | exact q421 | exact of_decide_eq_true (by first | (with_reducible assumption) | assumption) | (have e_ := (Kd.S_reads' HO_5.out).1; omega))
          obtain ⟨ve421_1, rfl, ge421_1⟩ := k36_openM hMe421
          have hv421_1 := hcc421 1 _ rfl
          rw [add_field _ _ 1 (by omega)] at hv421_1
          replace hv421_1 := Option.some.inj (hv421_1.symm.trans hx421_1)
          rw [hv421_1] at ge421_1
          have HL421_1 := Aside0.mk (show Kd.R (Kd.int .i64) 3 _ _ _ _ ((rd_T36 t389 x13_4).f0.f1) from ge421_1)
          clear hv421_1 ge421_1
          clear hcc421 hce421
          have HR421_1 := Aside0.mk hi421_1
          have HC421_1 := Aside0.mk hl421_1
          clear hi421_1 hl421_1
          replace p421 := eq_true p421
          replace q421 := eq_true q421
          have p422 : 0 ≤ (x11_2 : Int) := of_decide_eq_true (by first | (with_reducible assumption) | assumption)
          have q422 : x11_2 < (t392.length : Int) := of_decide_eq_true (by first | (with_reducible assumption) | assumption)
          obtain ⟨ad422, A422_1, c422_1, e422, hx422_0, hx422_1, hx422_2, hl422_1, hi422_1⟩ := at_T36 (Kd.V_reads' HO_6.out).2.2 x11_2 p422 q422
          obtain rfl : ad415 = ad422 := (by injection e422)
          obtain ⟨ce422, hce422, hMe422, hcc422⟩ := Kd.V_get HO_6.out z36 x11_2 p422 (by first | exact q422 | exact of_decide_eq_true (by first | (with_reducible assumption) | assumption) | (have e_ := (Kd.V_reads' HO_6.out).1; omega))
          obtain ⟨ua422_1, uc422_1, rfl, ul422_1, ge422_1⟩ := k36_openF hMe422
          have hv422_1 := hcc422 1 _ rfl
          rw [add_field _ _ 1 (by omega)] at hv422_1
          replace hv422_1 := Option.some.inj (hv422_1.symm.trans hx422_1)
          injection hv422_1 with hva_ hvn_ hvc_
          rw [hva_] at ge422_1
          rw [hvc_] at ul422_1
          have HL422_1 := Aside0.mk (show Kd.V (Kd.int .i64) 3 _ w.heap.size _ _ ((rd_T36 t392 x11_2).f0.f1) from Kd.V_mk ul422_1 ge422_1)
          clear hva_ hvn_ hvc_ ge422_1 ul422_1
          clear hcc422 hce422
          have HR422_1 := Aside0.mk hi422_1
          have HC422_1 := Aside0.mk hl422_1
          clear hi422_1 hl422_1
          replace p422 := eq_true p422
          replace q422 := eq_true q422
          refine start_ (n := 11) (S := fun w' => w'.cell? (ad414.add ((x13_4).toNat * 3)) = some (.int .i64 ((rd_T36 t389 x13_4).f0.f0)) ∧ w'.cell? ⟨(ad414.add ((x13_4).toNat * 3)).block, (ad414.add ((x13_4).toNat * 3)).off + 1, none⟩ = some (.slice A421_1 ((rd_T36 t389 x13_4).f0.f1).length c421_1) ∧ w'.cell? ⟨(ad414.add ((x13_4).toNat * 3)).block, (ad414.add ((x13_4).toNat * 3)).off + 2, none⟩ = some (.int .i64 ((rd_T36 t389 x13_4).f1)) ∧ w'.cell? (ad415.add ((x11_2).toNat * 3)) = some (.int .i64 ((rd_T36 t392 x11_2).f0.f0)) ∧ w'.cell? ⟨(ad415.add ((x11_2).toNat * 3)).block, (ad415.add ((x11_2).toNat * 3)).off + 1, none⟩ = some (.slice A422_1 ((rd_T36 t392 x11_2).f0.f1).length c422_1) ∧ w'.cell? ⟨(ad415.add ((x11_2).toNat * 3)).block, (ad415.add ((x11_2).toNat * 3)).off + 2, none⟩ = some (.int .i64 ((rd_T36 t392 x11_2).f1))) (ds := []) #[false, false, false, false, false, false, false, false, false, false, false] (by kernel_rfl) rfl rfl ⟨hx421_0, hx421_1, hx421_2, hx422_0, hx422_1, hx422_2⟩ (fun hHeld => ?_); refine with_tabW interlocutorlaw10_RankOrder.tab20 interlocutorlaw10_RankOrder.bits20 (fun HT_ HW_ => ?_)
          generalize w67.drew = w68 at HO_5 HO_6 HL414_1 HL415_1 HL419_1 HL420_1 HR414_1 HR415_1 HR419_1 HR420_1 HB HL421_1 HL422_1 HR421_1 HR422_1 hx421_0 hx421_1 hx421_2 hx422_0 hx422_1 hx422_2 hHeld ⊢
          refine pure_ (i := 0) (N := some 134) (v := ?_) (a' := ?_) #[true, false, false, false, false, false, false, false, false, false, false] rfl rfl (any_of HT_.out (by kernel_rfl)) (fun _ _ _ h => h) (Or.inl ⟨by rfl, ?_⟩) ?_ ?_; rotate_left; (intro w'; go_simp; with_reducible rfl); rotate_left; (simp only [pq5]; rfl)
          refine pure_ (i := 1) (N := some 135) (v := ?_) (a' := ?_) #[true, true, false, false, false, false, false, false, false, false, false] rfl rfl (any_of HT_.out (by kernel_rfl)) (fun _ _ _ h => h) (Or.inl ⟨by rfl, ?_⟩) ?_ ?_; rotate_left; (intro w'; go_simp; with_reducible rfl); rotate_left; (simp only [pq5]; rfl)
          refine pure_ (i := 2) (N := some 136) (v := ?_) (a' := ?_) #[true, true, true, false, false, false, false, false, false, false, false] rfl rfl (any_of HT_.out (by kernel_rfl)) (fun _ _ _ h => h) (Or.inl ⟨by rfl, ?_⟩) ?_ ?_; rotate_left; (intro w'; go_simp; with_reducible rfl); rotate_left; (simp only [pq5]; rfl)
          refine pure_ (i := 3) (N := some 137) (v := ?_) (a' := ?_) #[true, true, true, true, false, false, false, false, false, false, false] rfl rfl (any_of HT_.out (by kernel_rfl)) (fun _ _ _ h => h) (Or.inl ⟨by rfl, ?_⟩) ?_ ?_; rotate_left; (intro w'; go_simp; with_reducible rfl); rotate_left; (simp only [pq5]; rfl)
          refine pure_ (i := 5) (N := some 139) (v := ?_) (a' := ?_) #[true, true, true, true, false, true, false, false, false, false, false] rfl rfl (any_of HT_.out (by kernel_rfl)) (fun _ _ _ h => h) (Or.inl ⟨by rfl, ?_⟩) ?_ ?_; rotate_left; (intro w'; go_simp; with_reducible rfl); rotate_left; (simp only [pq5]; rfl)
          refine pure_ (i := 6) (N := some 140) (v := ?_) (a' := ?_) #[true, true, true, true, false, true, true, false, false, false, false] rfl rfl (any_of HT_.out (by kernel_rfl)) (fun _ _ _ h => h) (Or.inl ⟨by rfl, ?_⟩) ?_ ?_; rotate_left; (intro w'; go_simp; with_reducible rfl); rotate_left; (simp only [pq5]; rfl)
          refine pure_ (i := 7) (N := some 141) (v := ?_) (a' := ?_) #[true, true, true, true, false, true, true, true, false, false, false] rfl rfl (any_of HT_.out (by kernel_rfl)) (fun _ _ _ h => h) (Or.inl ⟨by rfl, ?_⟩) ?_ ?_; rotate_left; (intro w'; go_simp; with_reducible rfl); rotate_left; (simp only [pq5]; rfl)
          refine pure_ (i := 8) (N := some 142) (v := ?_) (a' := ?_) #[true, true, true, true, false, true, true, true, true, false, false] rfl rfl (any_of HT_.out (by kernel_rfl)) (fun _ _ _ h => h) (Or.inl ⟨by rfl, ?_⟩) ?_ ?_; rotate_left; (intro w'; go_simp; with_reducible rfl); rotate_left; (simp only [pq5]; rfl)
          refine take_ (i := 4) (N := some 138) (v := ?_) (a' := ?_) #[true, true, true, true, true, true, true, true, true, false, false] rfl rfl (take_ofW HT_.out HW_.out (by kernel_rfl)) (fun _ _ _ h => h) (Or.inl ⟨by rfl, ?_⟩) hHeld ?_ ?_
          rotate_left
          · rintro w' ⟨s0, s1, s2, s3, s4, s5⟩
            go_simp
            with_reducible rfl
          rotate_left
          · simp only [pq5]
            rfl
          refine take_ (i := 9) (N := some 143) (v := ?_) (a' := ?_) #[true, true, true, true, true, true, true, true, true, true, false] rfl rfl (take_ofW HT_.out HW_.out (by kernel_rfl)) (fun _ _ _ h => h) (Or.inl ⟨by rfl, ?_⟩) hHeld ?_ ?_
          rotate_left
          · rintro w' ⟨s0, s1, s2, s3, s4, s5⟩
            go_simp
            with_reducible rfl
          rotate_left
          · simp only [pq5]
            rfl
          refine pure_ (i := 10) (N := some 144) (v := ?_) (a' := ?_) #[true, true, true, true, true, true, true, true, true, true, true] rfl rfl (any_of HT_.out (by kernel_rfl)) (fun _ _ _ h => h) (Or.inl ⟨by rfl, ?_⟩) ?_ ?_; rotate_left; (intro w'; go_simp; with_reducible rfl); rotate_left; (simp only [pq5]; rfl)
          refine done_ (done_of HT_.out (by kernel_rfl)) ?_
          try go_wp2
          go_roundg k4
          case measure => have := HJ8.out; have := HK2.out; have := HJ27.out; have := HK4.out; omega
          case rel => exact ⟨((((rd_T36 t389 x13_4).f1) == ((rd_T36 t392 x11_2).f1))), (wrap64 (x13_4 + 1)), (by first | rfl | (simp; done) | (simp [*]; done)), (by first | rfl | (simp; done) | (simp [*]; done)), H', ⟨by have := HJ8.out; have := HK2.out; have := HJ27.out; have := HK4.out; omega⟩, ⟨by (with_reducible repeat (first | apply Kd.S_alloc | apply Kd.S_drewN | apply Kd.S_drew)); exact HO_5.out⟩, ⟨by (with_reducible repeat (first | apply Kd.V_alloc | apply Kd.V_drewN | apply Kd.V_drew)); exact HO_6.out⟩, ⟨by repeat (first | (with_reducible first | exact HB.out | apply below_alloc | apply pw_below_drewN | apply below_drew1) | exact HB.out)⟩⟩
/-- THE ONE PURE STATEMENT of interlocutorlaw10_RankOrder: yours. -/
def interlocutorlaw10_RankOrder.Pure : Prop := ∀ (l0 : List Int) (a1 : Int), l0.length ≤ maxLen → l0.length * 8 ≤ 140737488351232 → (∀ x ∈ l0, (Lit.int .i64 x).wf = true) → (Lit.int .i64 a1).wf = true → ∃ k, interlocutorlaw10_RankOrder.f k l0 a1 = some true
theorem interlocutorlaw10_RankOrder.walk (P : interlocutorlaw10_RankOrder.Pure) (a0 : Option Addr) (len0 cap0 : Nat) (z0 : List Int) (a1 : Int) (w : World) (w0 : (a0 = none ∧ len0 = 0 ∧ cap0 = 0 ∧ z0 = []) ∨ ∃ x, a0 = some x ∧ len0 ≤ cap0 ∧ cap0 ≤ maxLen ∧ z0.length = cap0 ∧ (∀ i, i < z0.length → w.cell? (x.add i) = some (.int .i64 (z0.getD i 0))) ∧ ∀ n ∈ z0, (Lit.int .i64 n).wf = true) (y0 : len0 * 8 ≤ 140737488351232) (w1 : (Lit.int .i64 a1).wf = true) (hT_ : TabOK w) :
    Calls Tryd.prog 5 #[.slice a0 len0 cap0, .int .i64 a1] w fun e w' => e = .returned (.bool true) ∧ Below w.heap.size w w' := by
  obtain ⟨l0, rfl, hr0, hm0, hw0, hc0⟩ := ReadsInt.ofRowC w0
  obtain ⟨k, h⟩ := P l0 a1 hm0 y0 hw0 w1
  refine (interlocutorlaw10_RankOrder.calls k _ _ l0 a1 true w (Kd.C_of_reads (d := (0 : Int)) (h1 := fun _ => rfl) hr0) hc0 h hT_).mono ?_
  rintro e w' ⟨rfl, hd⟩
  exact ⟨rfl, hd⟩
end Go.Proofs.YtlgndfplikhflaaDoor.G
