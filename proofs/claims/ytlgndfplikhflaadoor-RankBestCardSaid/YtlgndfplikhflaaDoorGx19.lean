import Derived.Test.YtlgndfplikhflaaDoorGx0
import Derived.Test.YtlgndfplikhflaaDoorGx18
namespace Go.Proofs.YtlgndfplikhflaaDoor.G
open Go.RowKit Go.Proofs.YtlgndfplikhflaaDoorW.PrintWords Go.Proofs.YtlgndfplikhflaaDoorW.PrintLast Go.Proofs.YtlgndfplikhflaaDoorW.PrintMore Go.Proofs.YtlgndfplikhflaaDoorW.VWords Go.Proofs.YtlgndfplikhflaaDoorW.Tab
attribute [local go_sem] max2_int min2_int max_two min_two max_three min_three max_four min_four
set_option linter.unusedVariables false
set_option linter.unusedSimpArgs false
abbrev N19 : Bool := false
abbrev Y19 : Bool := true
theorem pq19 : (∀ (t : Array Value) d (n : Nat) (v : Value), Act.put ⟨t, d⟩ (some n) v = ⟨t.setIfInBounds n v, d⟩) ∧ (∀ (l : List Value) (n : Nat) (v : Value), l.toArray.setIfInBounds n v = (l.set n v).toArray) ∧ (∀ (x v : Value) (l : List Value), (x :: l).set 0 v = v :: l) ∧ (∀ (x v : Value) (l : List Value) (n : Nat), (x :: l).set (n + 1) v = x :: l.set n v) ∧ (∀ z : Int, IntKind.i64.wrap z = wrap64 z) ∧ (∀ z : Int, IntKind.i32.wrap z = wrap32 z) := ⟨fun _ _ _ _ => rfl, fun _ _ _ => List.setIfInBounds_toArray .., fun _ _ _ => List.set_cons_zero .., fun _ _ _ _ => List.set_cons_succ .., i64_w, i32_w⟩
mutual
def interlocutorref10_Best.l0 : Nat → List (S36) → Int → List (S36) → Int → Option ((List (S36)) × Bool)
  | 0, _, _, _, _ => none
  | k + 1, x0, x1, x6, x7 => if x7 < (x0.length : Int) then (if 0 ≤ x7 then ((interlocutorref10_Add.f k x6 ((rd_T36 x0 x7).f0.f0) ((rd_T36 x0 x7).f0.f1) ((rd_T36 x0 x7).f1)).bind fun t314 => (interlocutorref10_Best.l0 k x0 x1 t314 (wrap64 (x7 + 1)))) else (none)) else (interlocutorref10_Best.l1 k x1 x6 ([] : List (S36)) 0)
def interlocutorref10_Best.l1 : Nat → Int → List (S36) → List (S36) → Int → Option ((List (S36)) × Bool)
  | 0, _, _, _, _ => none
  | k + 1, x1, x6, x8, x9 => if x9 < (x6.length : Int) then (interlocutorref10_Best.l2 k x1 x6 x8 x9 (x8.length : Int)) else (if (x8.length : Int) > x1 then (if 0 ≤ x1 then (if x1 ≤ (x8.length : Int) then (some ((x8.take (x1 : Int).toNat), true)) else (none)) else (none)) else (some (x8, false)))
def interlocutorref10_Best.l2 : Nat → Int → List (S36) → List (S36) → Int → Int → Option ((List (S36)) × Bool)
  | 0, _, _, _, _, _ => none
  | k + 1, x1, x6, x8, x9, x10 => if x10 > 0 then (if 0 ≤ x9 then (if x9 < (x6.length : Int) then (if 0 ≤ (wrap64 (x10 - 1)) then (if (wrap64 (x10 - 1)) < (x8.length : Int) then (if ((rd_T36 x6 x9).f1) < ((rd_T36 x8 (wrap64 (x10 - 1))).f1) then (interlocutorref10_Best.l2 k x1 x6 x8 x9 (wrap64 (x10 - 1))) else ((some (([] : List (S36)) : List (S36))).bind fun y322 => (if 0 ≤ x10 then (if x10 ≤ (x8.length : Int) then ((some (x8.take (x10 : Int).toNat : List (S36))).bind fun y325 => (if y322.length + y325.length < 3518437208883 then ((some (y322 ++ y325 : List (S36))).bind fun y330 => ((some (([(⟨(⟨(rd_T36 x6 x9).f0.f0, (rd_T36 x6 x9).f0.f1⟩ : S24), (rd_T36 x6 x9).f1⟩ : S36)] : List (S36)) : List (S36))).bind fun y334 => (if y330.length + y334.length < 3518437208883 then ((some (y330 ++ y334 : List (S36))).bind fun y337 => ((some (x8.drop (x10 : Int).toNat : List (S36))).bind fun y340 => (if y337.length + y340.length < 3518437208883 then (interlocutorref10_Best.l1 k x1 x6 (y337 ++ y340) (wrap64 (x9 + 1))) else (none)))) else (none)))) else (none))) else (none)) else (none)))) else (none)) else (none)) else (none)) else (none)) else ((some (([] : List (S36)) : List (S36))).bind fun y348 => (if 0 ≤ x10 then (if x10 ≤ (x8.length : Int) then ((some (x8.take (x10 : Int).toNat : List (S36))).bind fun y351 => (if y348.length + y351.length < 3518437208883 then ((some (y348 ++ y351 : List (S36))).bind fun y356 => (if 0 ≤ x9 then (if x9 < (x6.length : Int) then ((some (([(⟨(⟨(rd_T36 x6 x9).f0.f0, (rd_T36 x6 x9).f0.f1⟩ : S24), (rd_T36 x6 x9).f1⟩ : S36)] : List (S36)) : List (S36))).bind fun y360 => (if y356.length + y360.length < 3518437208883 then ((some (y356 ++ y360 : List (S36))).bind fun y363 => ((some (x8.drop (x10 : Int).toNat : List (S36))).bind fun y366 => (if y363.length + y366.length < 3518437208883 then (interlocutorref10_Best.l1 k x1 x6 (y363 ++ y366) (wrap64 (x9 + 1))) else (none)))) else (none))) else (none)) else (none))) else (none))) else (none)) else (none)))
end
def interlocutorref10_Best.f (k : Nat) (l0 : List (S36)) (a1 : Int) : Option ((List (S36)) × Bool) := interlocutorref10_Best.l0 k l0 a1 ([] : List (S36)) 0
theorem interlocutorref10_Best.mono_l : ∀ k, (∀ y0 y1 y2 y3, LeO (interlocutorref10_Best.l0 k y0 y1 y2 y3) (interlocutorref10_Best.l0 (k + 1) y0 y1 y2 y3)) ∧ (∀ y0 y1 y2 y3, LeO (interlocutorref10_Best.l1 k y0 y1 y2 y3) (interlocutorref10_Best.l1 (k + 1) y0 y1 y2 y3)) ∧ (∀ y0 y1 y2 y3 y4, LeO (interlocutorref10_Best.l2 k y0 y1 y2 y3 y4) (interlocutorref10_Best.l2 (k + 1) y0 y1 y2 y3 y4))
  | 0 => ⟨fun _ _ _ _ r h => by simp [interlocutorref10_Best.l0] at h, fun _ _ _ _ r h => by simp [interlocutorref10_Best.l1] at h, fun _ _ _ _ _ r h => by simp [interlocutorref10_Best.l2] at h⟩
  | k + 1 => by
    obtain ⟨ih0, ih1, ih2⟩ := interlocutorref10_Best.mono_l k
    refine ⟨?_, ?_, ?_⟩
    · intro y0 y1 y2 y3
      unfold interlocutorref10_Best.l0
      repeat' first
      | (with_reducible exact ih0 _ _ _ _)
      | (with_reducible exact ih1 _ _ _ _)
      | (with_reducible exact ih2 _ _ _ _ _)
      | (with_reducible exact interlocutorref10_Add.mono _ _ _ _ _)
      | (with_reducible exact LeO.refl _)
      | (with_reducible exact LeO.none _)
      | (with_reducible refine LeO.ite ?_ ?_)
      | (with_reducible refine LeO.bind ?_ (fun _ => ?_))
      | exact ih0 _ _ _ _
      | exact ih1 _ _ _ _
      | exact ih2 _ _ _ _ _
      | exact interlocutorref10_Add.mono _ _ _ _ _
      | exact LeO.none _
      | refine LeO.ite ?_ ?_
      | refine LeO.bind ?_ (fun _ => ?_)
    · intro y0 y1 y2 y3
      unfold interlocutorref10_Best.l1
      repeat' first
      | (with_reducible exact ih0 _ _ _ _)
      | (with_reducible exact ih1 _ _ _ _)
      | (with_reducible exact ih2 _ _ _ _ _)
      | (with_reducible exact interlocutorref10_Add.mono _ _ _ _ _)
      | (with_reducible exact LeO.refl _)
      | (with_reducible exact LeO.none _)
      | (with_reducible refine LeO.ite ?_ ?_)
      | (with_reducible refine LeO.bind ?_ (fun _ => ?_))
      | exact ih0 _ _ _ _
      | exact ih1 _ _ _ _
      | exact ih2 _ _ _ _ _
      | exact interlocutorref10_Add.mono _ _ _ _ _
      | exact LeO.none _
      | refine LeO.ite ?_ ?_
      | refine LeO.bind ?_ (fun _ => ?_)
    · intro y0 y1 y2 y3 y4
      unfold interlocutorref10_Best.l2
      repeat' first
      | (with_reducible exact ih0 _ _ _ _)
      | (with_reducible exact ih1 _ _ _ _)
      | (with_reducible exact ih2 _ _ _ _ _)
      | (with_reducible exact interlocutorref10_Add.mono _ _ _ _ _)
      | (with_reducible exact LeO.refl _)
      | (with_reducible exact LeO.none _)
      | (with_reducible refine LeO.ite ?_ ?_)
      | (with_reducible refine LeO.bind ?_ (fun _ => ?_))
      | exact ih0 _ _ _ _
      | exact ih1 _ _ _ _
      | exact ih2 _ _ _ _ _
      | exact interlocutorref10_Add.mono _ _ _ _ _
      | exact LeO.none _
      | refine LeO.ite ?_ ?_
      | refine LeO.bind ?_ (fun _ => ?_)
def interlocutorref10_Best.T11 : Bool × List (List Nat × List Nat) := (true, [([], []), ([0], [0]), ([1], [1]), ([2], [2]), ([2], [2]), ([3, 4, 2], [2, 3, 4]), ([5, 2], [2, 5]), ([6, 2], [2, 6]), ([2], [2]), ([2], [2]), ([9, 2], [2, 9]), ([8, 10, 2], [2, 8, 10]), ([11, 2], [2, 11]), ([12, 2], [2, 12]), ([7, 13, 2], [2, 7, 13]), ([2, 14], [2, 14])])
def interlocutorref10_Best.B11 : List Nat := [0, 1, 3, 7, 7, 31, 63, 127, 7, 7, 519, 1799, 3847, 7943, 16383, 32767]
theorem interlocutorref10_Best.tab11 : rtab .any (opsOf Tryd.f19 11) = interlocutorref10_Best.T11 := by kernel_rfl
theorem interlocutorref10_Best.bits11 : waitsOk interlocutorref10_Best.T11.2 interlocutorref10_Best.B11 = true := by kernel_rfl
def interlocutorref10_Best.T13 : Bool × List (List Nat × List Nat) := (true, [([], []), ([], []), ([], []), ([1, 2], [1, 2]), ([0, 3], [0, 3]), ([], []), ([], []), ([5, 6], [5, 6]), ([7], [7]), ([8], [8]), ([4, 9, 4], [4, 9]), ([], []), ([], []), ([11, 12], [11, 12]), ([10, 13, 10], [10, 13]), ([14, 14, 0, 1, 2, 3, 4, 5, 6, 7, 8, 9, 10, 11, 12, 13, 14], [1, 11, 14])])
def interlocutorref10_Best.B13 : List Nat := [0, 0, 0, 6, 15, 0, 0, 96, 224, 480, 1023, 0, 0, 6144, 16383, 32767]
theorem interlocutorref10_Best.tab13 : rtab .any (opsOf Tryd.f19 13) = interlocutorref10_Best.T13 := by kernel_rfl
theorem interlocutorref10_Best.bits13 : waitsOk interlocutorref10_Best.T13.2 interlocutorref10_Best.B13 = true := by kernel_rfl
set_option maxHeartbeats 8000000 in
set_option maxRecDepth 100000 in
theorem interlocutorref10_Best.calls (k : Nat) (P0_ : Nat → Prop) (A0 : Option Addr) (c0 : Nat) (l0 : List (S36)) (a1 : Int) (r1 : List (S36)) (r2 : Bool) (w : World) (hs0 : Kd.V k36 36 w w.heap.size (fun k_ => P0_ k_) (.slice A0 l0.length c0) l0) (h : interlocutorref10_Best.f k l0 a1 = some (r1, r2)) :
    Calls Tryd.prog 19 #[.slice A0 l0.length c0, .int .i64 a1] w fun e w' => ∃ v0_ : Value, e = .returned (.tuple #[v0_, .bool r2]) ∧ Kd.N k36 36 w' w.heap.size (fun k_ => (P0_ k_ ∨ w.heap.size ≤ k_)) v0_ r1 ∧ Below w.heap.size w w' := by
  have hu36 := Tryd.underlying36
  have HO0 := Aside0.mk (show Kd.V k36 36 w w.heap.size (fun k_ => (P0_ k_ ∨ w.heap.size ≤ k_)) (.slice A0 l0.length c0) l0 from Kd.V_mono hs0 (fun k_ hk => .inl hk))
  have HB := Aside0.mk (Below.refl w.heap.size w)
  have H : (interlocutorref10_Best.l0 k l0 a1 ([] : List (S36)) 0) = some (r1, r2) := h
  clear h
  have H' := Aside0.mk H
  clear H
  go_enter Tryd.func19, Tryd.ntmps19
  go_wp2
  go_loopg [6, 7] k (fun kq v6 v7 w' => ∃ (x6_1 : List (S36)) (x7_1 : Int), v7 = .int .i64 x7_1 ∧ Aside0 (interlocutorref10_Best.l0 kq l0 a1 x6_1 x7_1 = some (r1, r2)) ∧ Aside0 (kq ≤ k) ∧ Aside0 (Kd.V k36 36 w' w.heap.size (fun k_ => (P0_ k_ ∨ w.heap.size ≤ k_)) (.slice A0 l0.length c0) l0) ∧ Aside0 (Kd.V k36 36 w' w.heap.size (fun k_ => (P0_ k_ ∨ w.heap.size ≤ k_)) v6 x6_1) ∧ Aside0 (Below w.heap.size w w'))
  case atStart => exact ⟨(([] : List (S36))), (0), (by first | rfl | (simp; done) | (simp [*]; done)), H', ⟨Nat.le_refl _⟩, ⟨by exact vU HO0.out⟩, ⟨(by first | exact Kd.V_nil _ _ _ _ _ | exact Kd.N_V (Kd.N_nil _ _ _ w.heap.size _))⟩, ⟨by exact wU HB.out⟩⟩
  case round =>
   clear H'
   try clear c1
   try clear p2
   obtain ⟨x6_1, x7_1, rfl, HA, HK1, HO_0, HO_6, HB⟩ := hrel
   cases gk with
   | zero => exact absurd HA.out (by simp [interlocutorref10_Best.l0])
   | succ k1 =>
    have H := HA.out
    clear HA
    simp only [interlocutorref10_Best.l0] at H
    by_cases c3 : x7_1 < (l0.length : Int)
    · rw [if_pos c3] at H
      have c3b0 : decide (x7_1 < (l0.length : Int)) = true := decide_eq_true c3
      clear c3
      by_cases c4 : 0 ≤ x7_1
      rotate_left
      · rw [if_neg c4] at H
        exact absurd H (by simp)
      rw [if_pos c4] at H
      have c4b0 : decide (0 ≤ x7_1) = true := decide_eq_true c4
      clear c4
      replace H := Option.bind_eq_some_iff.mp H
      obtain ⟨t314, A50, H⟩ := H
      replace H : (interlocutorref10_Best.l0 k1 l0 a1 t314 (wrap64 (x7_1 + 1))) = some (r1, r2) := H
      have A5 := Aside0.mk A50
      clear A50
      have H' := Aside0.mk H
      clear H
      have p313 : 0 ≤ (x7_1 : Int) := of_decide_eq_true (by first | (with_reducible assumption) | assumption)
      have q313 : x7_1 < (l0.length : Int) := of_decide_eq_true (by first | (with_reducible assumption) | assumption)
      obtain ⟨ad313, A313_1, c313_1, e313, hx313_0, hx313_1, hx313_2, hl313_1, hi313_1⟩ := at_T36 (Kd.V_reads' HO_0.out).2.2 x7_1 p313 q313
      cases e313
      obtain ⟨ce313, hce313, hMe313, hcc313⟩ := Kd.V_get HO_0.out z36 x7_1 p313 (by first | exact q313 | exact of_decide_eq_true (by first | (with_reducible assumption) | assumption) | (have e_ := (Kd.V_reads' HO_0.out).1; omega))
      obtain ⟨ua313_1, uc313_1, rfl, ul313_1, ge313_1⟩ := k36_openF hMe313
      have hv313_1 := hcc313 1 _ rfl
      rw [add_field _ _ 1 (by omega)] at hv313_1
      replace hv313_1 := Option.some.inj (hv313_1.symm.trans hx313_1)
      injection hv313_1 with hva_ hvn_ hvc_
      rw [hva_] at ge313_1
      rw [hvc_] at ul313_1
      have HL313_1 := Aside0.mk (show Kd.V (Kd.int .i64) 3 _ w.heap.size _ _ ((rd_T36 l0 x7_1).f0.f1) from Kd.V_mk ul313_1 ge313_1)
      clear hva_ hvn_ hvc_ ge313_1 ul313_1 hcc313 hce313
      have HR313_1 := Aside0.mk hi313_1
      have HC313_1 := Aside0.mk hl313_1
      clear hi313_1 hl313_1
      replace p313 := eq_true p313
      replace q313 := eq_true q313
      obtain ⟨Ao6, co6, eo6⟩ := Kd.V_slice HO_6.out
      subst eo6
      go_wp2_with (first | ((with_reducible refine gate_callee (f := 29) rfl ?_); refine goesL_ (some 22) rfl rfl Tryd.func29 (by kernel_rfl) rfl #[.slice Ao6 x6_1.length co6, .agg #[.int .i64 ((rd_T36 l0 x7_1).f0.f0), .slice A313_1 ((rd_T36 l0 x7_1).f0.f1).length c313_1, .int .i64 ((rd_T36 l0 x7_1).f1)]] rfl (by (try simp only [List.map_toArray, List.map_cons, List.map_nil]); first | done | rfl | (simp only [List.length_drop, List.length_take]; rfl)) ?_; (with_reducible refine (interlocutorref10_Add.calls k1 (fun k_ => (P0_ k_ ∨ w.heap.size ≤ k_)) _ _ x6_1 ((rd_T36 l0 x7_1).f0.f0) (fun k_ => (P0_ k_ ∨ w.heap.size ≤ k_)) _ _ ((rd_T36 l0 x7_1).f0.f1) ((rd_T36 l0 x7_1).f1) t314 _ ?side1 ?side2 A5.out).mono ?_); (case side1 => exact HO_6.out); (case side2 => exact HL313_1.out); rintro e w7 ⟨v315, rfl, ho0, hb⟩; refine ⟨_, rfl, ?_⟩; have n0_ := Aside0.mk (Kd.V_below (by exact vU HO_0.out) hb); have n1_ := Aside0.mk (Kd.V_below (by exact vU HO_6.out) hb); have n2_ := Aside0.mk (Kd.V_below (by exact vU HL313_1.out) hb); have n3_ := Aside0.mk (Kd.V_lower (Kd.V_mono (ok' := fun k_ => (P0_ k_ ∨ w.heap.size ≤ k_)) ho0 (fun k_ hk_ => Or.elim hk_ (fun hs_ => Or.elim hs_ (fun hs_ => hs_) (fun hs_ => hs_)) (fun hn_ => (.inr (Nat.le_trans (below_size (by exact wU HB.out)) hn_))))) (below_size (by exact wU HB.out))); have n4_ := Aside0.mk (Kd.C_below (by repeat (first | (with_reducible exact HR313_1.out) | (with_reducible refine Kd.C_alloc ?_ _) | (with_reducible refine Kd.C_drewN ?_ _) | (with_reducible refine Kd.C_drew ?_) | exact HR313_1.out)) hb); have n5_ := Aside0.mk (below_step (by exact wU HB.out) hb); clear HO_0; clear HO_6; clear HL313_1; clear HR313_1; clear HB; have HO_0 := n0_; have HO_6 := n1_; have HL313_1 := n2_; have HO316 := n3_; have HR313_1 := n4_; have HB := n5_; clear n0_ n1_ n2_ n3_ n4_ n5_; (try clear hb); (try clear hb2); (try clear hk); (try clear hi); (try clear ho0)))
      go_roundg k1
      case measure => have := HK1.out; omega
      case rel => exact ⟨(t314), (wrap64 (x7_1 + 1)), (by first | rfl | (simp; done) | (simp [*]; done)), H', ⟨by have := HK1.out; omega⟩, ⟨by exact vU HO_0.out⟩, ⟨by exact vU HO316.out⟩, ⟨by exact wU HB.out⟩⟩
    rw [if_neg c3] at H
    have c3b0 : decide (x7_1 < (l0.length : Int)) = false := decide_eq_false c3
    clear c3
    have H' := Aside0.mk H
    clear H
    go_wp2
    go_loopg [8, 9] k1 (fun kq v8 v9 w' => ∃ (x8_2 : List (S36)) (x9_2 : Int), v9 = .int .i64 x9_2 ∧ Aside0 (interlocutorref10_Best.l1 kq a1 x6_1 x8_2 x9_2 = some (r1, r2)) ∧ Aside0 (kq ≤ k1) ∧ Aside0 (Kd.V k36 36 w' w.heap.size (fun k_ => (P0_ k_ ∨ w.heap.size ≤ k_) ∧ some k_ ≠ (v8 : Value).ownBlock) u6 x6_1) ∧ Aside0 (Kd.N k36 36 w' w.heap.size (fun k_ => (P0_ k_ ∨ w.heap.size ≤ k_)) v8 x8_2) ∧ Aside0 (Below w.heap.size w w'))
    case atStart => exact ⟨(([] : List (S36))), (0), (by first | rfl | (simp; done) | (simp [*]; done)), H', ⟨Nat.le_refl _⟩, ⟨by exact vU (Kd.V_mono HO_6.out (fun _ hk => ⟨hk, (by simp [Value.ownBlock])⟩))⟩, ⟨by first | exact Kd.S_nil _ _ _ _ _ | exact Kd.N_nil _ _ _ _ _ | exact Kd.V_nil _ _ _ _ _ | exact Kd.Q_nil _ _ _ _ _ | exact Kd.R_nil _ _ _ _ _⟩, ⟨by exact wU HB.out⟩⟩
    case round =>
     clear H'
     try clear c1
     try clear c2
     try clear p2
     try clear c3
     try clear c3b0
     try clear p3
     try clear q3
     try clear hx3
     try clear c4
     try clear c4b0
     try clear p6
     try clear hx313_0
     try clear hx313_1
     try clear hx313_2
     try clear p2
     try clear p313
     try clear q313
     obtain ⟨x8_2, x9_2, rfl, HA, HK2, HO_6, HO_8, HB⟩ := hrel
     cases gk with
     | zero => exact absurd HA.out (by simp [interlocutorref10_Best.l1])
     | succ k2 =>
      have H := HA.out
      clear HA
      simp only [interlocutorref10_Best.l1] at H
      by_cases c8 : x9_2 < (x6_1.length : Int)
      rotate_left
      · rw [if_neg c8] at H
        have c8b0 : decide (x9_2 < (x6_1.length : Int)) = false := decide_eq_false c8
        clear c8
        by_cases c61 : (x8_2.length : Int) > a1
        rotate_left
        · rw [if_neg c61] at H
          have c61b0 : decide (a1 < (x8_2.length : Int)) = false := decide_eq_false c61
          clear c61
          simp only [Option.some.injEq, Prod.mk.injEq] at H
          obtain ⟨rfl, rfl⟩ := H
          obtain ⟨Ao67, co67, eo67⟩ := Kd.V_slice HO_6.out
          subst eo67
          obtain ⟨Ao68, co68, eo68⟩ := Kd.N_slice HO_8.out
          subst eo68
          go_wp2
          go_ret2
          exact ⟨_, by first | rfl | (simp [errW_none, errW_some] <;> rfl) | (simp [*, errW_none, errW_some] <;> rfl), by exact nU HO_8.out, by exact wU HB.out⟩
        rw [if_pos c61] at H
        have c61b0 : decide (a1 < (x8_2.length : Int)) = true := decide_eq_true c61
        clear c61
        by_cases c62 : 0 ≤ a1
        rotate_left
        · rw [if_neg c62] at H
          exact absurd H (by simp)
        rw [if_pos c62] at H
        have c62b0 := eq_true c62
        have c62b1 : decide (0 ≤ a1) = true := decide_eq_true c62
        clear c62
        by_cases c63 : a1 ≤ (x8_2.length : Int)
        rotate_left
        · rw [if_neg c63] at H
          exact absurd H (by simp)
        rw [if_pos c63] at H
        have c63b0 := eq_true c63
        have c63b1 : decide (a1 ≤ (x8_2.length : Int)) = true := decide_eq_true c63
        clear c63
        obtain ⟨y317, hy317⟩ : ∃ y_ : List (S36), y_ = (x8_2.take (a1 : Int).toNat) := ⟨_, rfl⟩
        replace H : (some (y317, true)) = some (r1, r2) := by first | (rw [hy317]; with_reducible exact H) | (have H2_ := (Option.bind_some _ _).symm.trans H; rw [hy317]; with_reducible exact H2_) | (have H2_ := (Option.bind_some _ _).symm.trans H; with_reducible exact H2_) | with_reducible exact H | (rw [hy317]; exact H) | exact H
        have Ny317 := Aside0.mk hy317
        clear hy317
        simp only [Option.some.injEq, Prod.mk.injEq] at H
        obtain ⟨rfl, rfl⟩ := H
        obtain ⟨Ao64, co64, eo64⟩ := Kd.V_slice HO_6.out
        subst eo64
        obtain ⟨Ao65, co65, eo65⟩ := Kd.N_slice HO_8.out
        subst eo65
        have q66 : (a1 : Int) ≤ ((x8_2.length : Int) : Int) := of_decide_eq_true (by first | (with_reducible assumption) | assumption)
        obtain ⟨i066, hi066, _, hsz66, _⟩ := info_parts info36
        have hcut66 := cut_to (P := Tryd.prog) 28 36 .i64 Tryd.underlying28 hi066 Ao65 x8_2.length co65 a1 (of_decide_eq_true (by first | (with_reducible assumption) | assumption)) q66 (Kd.N_reads' HO_8.out).2.1
        have hr66 := Kd.N_take (m := (a1 : Int).toNat) HO_8.out (by omega)
        have hy66 : y317.length = (a1 : Int).toNat := (by rw [Ny317.out, List.length_take]; omega)
        rw [← Ny317.out] at hr66
        rw [← hy66] at hr66 hcut66
        clear hy66 hi066 hsz66 HO_8
        have HO319 := Aside0.mk hr66
        clear hr66
        replace q66 := eq_true q66
        go_wp2
        go_ret2
        exact ⟨_, by first | rfl | (simp [errW_none, errW_some] <;> rfl) | (simp [*, errW_none, errW_some] <;> rfl), by exact nU HO319.out, by exact wU HB.out⟩
      rw [if_pos c8] at H
      have c8b0 : decide (x9_2 < (x6_1.length : Int)) = true := decide_eq_true c8
      clear c8
      have H' := Aside0.mk H
      clear H
      obtain ⟨Ao9, co9, eo9⟩ := Kd.V_slice HO_6.out
      subst eo9
      obtain ⟨Ao10, co10, eo10⟩ := Kd.N_slice HO_8.out
      subst eo10
      go_wp2
      go_loopg [10] k2 (fun kq v10 w' => ∃ (x10_3 : Int), v10 = .int .i64 x10_3 ∧ Aside0 (interlocutorref10_Best.l2 kq a1 x6_1 x8_2 x9_2 x10_3 = some (r1, r2)) ∧ Aside0 (kq ≤ k2) ∧ Aside0 (Kd.V k36 36 w' w.heap.size (fun k_ => (P0_ k_ ∨ w.heap.size ≤ k_) ∧ some k_ ≠ ((.slice Ao10 x8_2.length co10) : Value).ownBlock) (.slice Ao9 x6_1.length co9) x6_1) ∧ Aside0 (Kd.N k36 36 w' w.heap.size (fun k_ => (P0_ k_ ∨ w.heap.size ≤ k_)) (.slice Ao10 x8_2.length co10) x8_2) ∧ Aside0 (Below w.heap.size w w'))
      case atStart => exact ⟨((x8_2.length : Int)), (by first | rfl | (simp; done) | (simp [*]; done)), H', ⟨Nat.le_refl _⟩, ⟨by exact vU HO_6.out⟩, ⟨by exact nU HO_8.out⟩, ⟨by exact wU HB.out⟩⟩
      case round =>
       clear H'
       try clear c1
       try clear c2
       try clear p2
       try clear c3
       try clear c3b0
       try clear p3
       try clear q3
       try clear hx3
       try clear c4
       try clear c4b0
       try clear p6
       try clear c8
       try clear c8b0
       try clear hx313_0
       try clear hx313_1
       try clear hx313_2
       try clear p2
       try clear p3
       try clear p313
       try clear p6
       try clear q3
       try clear q313
       obtain ⟨x10_3, rfl, HA, HK3, HO_6, HO_8, HB⟩ := hrel
       cases gk with
       | zero => exact absurd HA.out (by simp [interlocutorref10_Best.l2])
       | succ k3 =>
        have H := HA.out
        clear HA
        simp only [interlocutorref10_Best.l2] at H
        by_cases c11 : x10_3 > 0
        rotate_left
        · rw [if_neg c11] at H
          have c11b0 : decide (0 < x10_3) = false := decide_eq_false c11
          clear c11
          obtain ⟨y348, hy348⟩ : ∃ y_ : List (S36), y_ = (([] : List (S36))) := ⟨_, rfl⟩
          replace H : (if 0 ≤ x10_3 then (if x10_3 ≤ (x8_2.length : Int) then ((some (x8_2.take (x10_3 : Int).toNat : List (S36))).bind fun y351 => (if y348.length + y351.length < 3518437208883 then ((some (y348 ++ y351 : List (S36))).bind fun y356 => (if 0 ≤ x9_2 then (if x9_2 < (x6_1.length : Int) then ((some (([(⟨(⟨(rd_T36 x6_1 x9_2).f0.f0, (rd_T36 x6_1 x9_2).f0.f1⟩ : S24), (rd_T36 x6_1 x9_2).f1⟩ : S36)] : List (S36)) : List (S36))).bind fun y360 => (if y356.length + y360.length < 3518437208883 then ((some (y356 ++ y360 : List (S36))).bind fun y363 => ((some (x8_2.drop (x10_3 : Int).toNat : List (S36))).bind fun y366 => (if y363.length + y366.length < 3518437208883 then (interlocutorref10_Best.l1 k3 a1 x6_1 (y363 ++ y366) (wrap64 (x9_2 + 1))) else (none)))) else (none))) else (none)) else (none))) else (none))) else (none)) else (none)) = some (r1, r2) := by first | (rw [hy348]; with_reducible exact H) | (have H2_ := (Option.bind_some _ _).symm.trans H; rw [hy348]; with_reducible exact H2_) | (have H2_ := (Option.bind_some _ _).symm.trans H; with_reducible exact H2_) | with_reducible exact H | (rw [hy348]; exact H) | exact H
          have Ny348 := Aside0.mk hy348
          clear hy348
          by_cases c39 : 0 ≤ x10_3
          rotate_left
          · rw [if_neg c39] at H
            exact absurd H (by simp)
          rw [if_pos c39] at H
          have c39b0 := eq_true c39
          have c39b1 : decide (0 ≤ x10_3) = true := decide_eq_true c39
          clear c39
          by_cases c40 : x10_3 ≤ (x8_2.length : Int)
          rotate_left
          · rw [if_neg c40] at H
            exact absurd H (by simp)
          rw [if_pos c40] at H
          have c40b0 := eq_true c40
          have c40b1 : decide (x10_3 ≤ (x8_2.length : Int)) = true := decide_eq_true c40
          clear c40
          obtain ⟨y351, hy351⟩ : ∃ y_ : List (S36), y_ = (x8_2.take (x10_3 : Int).toNat) := ⟨_, rfl⟩
          replace H : (if y348.length + y351.length < 3518437208883 then ((some (y348 ++ y351 : List (S36))).bind fun y356 => (if 0 ≤ x9_2 then (if x9_2 < (x6_1.length : Int) then ((some (([(⟨(⟨(rd_T36 x6_1 x9_2).f0.f0, (rd_T36 x6_1 x9_2).f0.f1⟩ : S24), (rd_T36 x6_1 x9_2).f1⟩ : S36)] : List (S36)) : List (S36))).bind fun y360 => (if y356.length + y360.length < 3518437208883 then ((some (y356 ++ y360 : List (S36))).bind fun y363 => ((some (x8_2.drop (x10_3 : Int).toNat : List (S36))).bind fun y366 => (if y363.length + y366.length < 3518437208883 then (interlocutorref10_Best.l1 k3 a1 x6_1 (y363 ++ y366) (wrap64 (x9_2 + 1))) else (none)))) else (none))) else (none)) else (none))) else (none)) = some (r1, r2) := by first | (rw [hy351]; with_reducible exact H) | (have H2_ := (Option.bind_some _ _).symm.trans H; rw [hy351]; with_reducible exact H2_) | (have H2_ := (Option.bind_some _ _).symm.trans H; with_reducible exact H2_) | with_reducible exact H | (rw [hy351]; exact H) | exact H
          have Ny351 := Aside0.mk hy351
          clear hy351
          by_cases c41 : y348.length + y351.length < 3518437208883
          rotate_left
          · rw [if_neg c41] at H
            exact absurd H (by simp)
          rw [if_pos c41] at H
          have LMc41 := Aside0.mk c41
          clear c41
          obtain ⟨y356, hy356⟩ : ∃ y_ : List (S36), y_ = (y348 ++ y351) := ⟨_, rfl⟩
          replace H : (if 0 ≤ x9_2 then (if x9_2 < (x6_1.length : Int) then ((some (([(⟨(⟨(rd_T36 x6_1 x9_2).f0.f0, (rd_T36 x6_1 x9_2).f0.f1⟩ : S24), (rd_T36 x6_1 x9_2).f1⟩ : S36)] : List (S36)) : List (S36))).bind fun y360 => (if y356.length + y360.length < 3518437208883 then ((some (y356 ++ y360 : List (S36))).bind fun y363 => ((some (x8_2.drop (x10_3 : Int).toNat : List (S36))).bind fun y366 => (if y363.length + y366.length < 3518437208883 then (interlocutorref10_Best.l1 k3 a1 x6_1 (y363 ++ y366) (wrap64 (x9_2 + 1))) else (none)))) else (none))) else (none)) else (none)) = some (r1, r2) := by first | (rw [hy356]; with_reducible exact H) | (have H2_ := (Option.bind_some _ _).symm.trans H; rw [hy356]; with_reducible exact H2_) | (have H2_ := (Option.bind_some _ _).symm.trans H; with_reducible exact H2_) | with_reducible exact H | (rw [hy356]; exact H) | exact H
          have Ny356 := Aside0.mk hy356
          clear hy356
          by_cases c42 : 0 ≤ x9_2
          rotate_left
          · rw [if_neg c42] at H
            exact absurd H (by simp)
          rw [if_pos c42] at H
          have c42b0 : decide (0 ≤ x9_2) = true := decide_eq_true c42
          clear c42
          by_cases c43 : x9_2 < (x6_1.length : Int)
          rotate_left
          · rw [if_neg c43] at H
            exact absurd H (by simp)
          rw [if_pos c43] at H
          have c43b0 : decide (x9_2 < (x6_1.length : Int)) = true := decide_eq_true c43
          clear c43
          obtain ⟨y360, hy360⟩ : ∃ y_ : List (S36), y_ = (([(⟨(⟨(rd_T36 x6_1 x9_2).f0.f0, (rd_T36 x6_1 x9_2).f0.f1⟩ : S24), (rd_T36 x6_1 x9_2).f1⟩ : S36)] : List (S36))) := ⟨_, rfl⟩
          replace H : (if y356.length + y360.length < 3518437208883 then ((some (y356 ++ y360 : List (S36))).bind fun y363 => ((some (x8_2.drop (x10_3 : Int).toNat : List (S36))).bind fun y366 => (if y363.length + y366.length < 3518437208883 then (interlocutorref10_Best.l1 k3 a1 x6_1 (y363 ++ y366) (wrap64 (x9_2 + 1))) else (none)))) else (none)) = some (r1, r2) := by first | (rw [hy360]; with_reducible exact H) | (have H2_ := (Option.bind_some _ _).symm.trans H; rw [hy360]; with_reducible exact H2_) | (have H2_ := (Option.bind_some _ _).symm.trans H; with_reducible exact H2_) | with_reducible exact H | (rw [hy360]; exact H) | exact H
          have Ny360 := Aside0.mk hy360
          clear hy360
          by_cases c44 : y356.length + y360.length < 3518437208883
          rotate_left
          · rw [if_neg c44] at H
            exact absurd H (by simp)
          rw [if_pos c44] at H
          have LMc44 := Aside0.mk c44
          clear c44
          obtain ⟨y363, hy363⟩ : ∃ y_ : List (S36), y_ = (y356 ++ y360) := ⟨_, rfl⟩
          replace H : ((some (x8_2.drop (x10_3 : Int).toNat : List (S36))).bind fun y366 => (if y363.length + y366.length < 3518437208883 then (interlocutorref10_Best.l1 k3 a1 x6_1 (y363 ++ y366) (wrap64 (x9_2 + 1))) else (none))) = some (r1, r2) := by first | (rw [hy363]; with_reducible exact H) | (have H2_ := (Option.bind_some _ _).symm.trans H; rw [hy363]; with_reducible exact H2_) | (have H2_ := (Option.bind_some _ _).symm.trans H; with_reducible exact H2_) | with_reducible exact H | (rw [hy363]; exact H) | exact H
          have Ny363 := Aside0.mk hy363
          clear hy363
          have c45b0 := eq_true (of_decide_eq_true (by first | (with_reducible assumption) | assumption) : 0 ≤ x10_3)
          have c46b0 := eq_true (of_decide_eq_true (by first | (with_reducible assumption) | assumption) : x10_3 ≤ (x8_2.length : Int))
          obtain ⟨y366, hy366⟩ : ∃ y_ : List (S36), y_ = (x8_2.drop (x10_3 : Int).toNat) := ⟨_, rfl⟩
          replace H : (if y363.length + y366.length < 3518437208883 then (interlocutorref10_Best.l1 k3 a1 x6_1 (y363 ++ y366) (wrap64 (x9_2 + 1))) else (none)) = some (r1, r2) := by first | (rw [hy366]; with_reducible exact H) | (have H2_ := (Option.bind_some _ _).symm.trans H; rw [hy366]; with_reducible exact H2_) | (have H2_ := (Option.bind_some _ _).symm.trans H; with_reducible exact H2_) | with_reducible exact H | (rw [hy366]; exact H) | exact H
          have Ny366 := Aside0.mk hy366
          clear hy366
          by_cases c47 : y363.length + y366.length < 3518437208883
          rotate_left
          · rw [if_neg c47] at H
            exact absurd H (by simp)
          rw [if_pos c47] at H
          have LMc47 := Aside0.mk c47
          clear c47
          obtain ⟨y371, hy371⟩ : ∃ y_ : List (S36), y_ = (y363 ++ y366) := ⟨_, rfl⟩
          replace H : (interlocutorref10_Best.l1 k3 a1 x6_1 y371 (wrap64 (x9_2 + 1))) = some (r1, r2) := by first | (rw [hy371]; with_reducible exact H) | (have H2_ := (Option.bind_some _ _).symm.trans H; rw [hy371]; with_reducible exact H2_) | (have H2_ := (Option.bind_some _ _).symm.trans H; with_reducible exact H2_) | with_reducible exact H | (rw [hy371]; exact H) | exact H
          have Ny371 := Aside0.mk hy371
          clear hy371
          have H' := Aside0.mk H
          clear H
          try go_wp2
          have n0_ := Aside0.mk (Kd.V_drew HO_6.out)
          have n1_ := Aside0.mk (Kd.N_drew HO_8.out)
          have n2_ := Aside0.mk (below_drew1 HB.out)
          clear HO_6 HO_8 HB
          have HO_6 := n0_
          have HO_8 := n1_
          have HB := n2_
          clear n0_ n1_ n2_
          refine start_ (n := 16) (S := fun w' => True) (ds := []) #[N19,N19,N19,N19,N19,N19,N19,N19,N19,N19,N19,N19,N19,N19,N19,N19] (by kernel_rfl) rfl rfl trivial (fun hHeld => ?_); refine with_tabW interlocutorref10_Best.tab11 interlocutorref10_Best.bits11 (fun HT_ HW_ => ?_)
          generalize wr.drew = w48 at HO_6 HO_8 HB hHeld ⊢
          refine pure_ (i := 0) (N := some 31) (v := ?_) (a' := ?_) #[Y19,N19,N19,N19,N19,N19,N19,N19,N19,N19,N19,N19,N19,N19,N19,N19] rfl rfl (any_of HT_.out (by kernel_rfl)) (fun _ _ _ h => h) (Or.inl ⟨by rfl, ?_⟩) ?_ ?_; rotate_left; (intro w'; go_simp; with_reducible rfl); rotate_left; (simp only [pq19]; rfl)
          refine pure_ (i := 1) (N := some 32) (v := ?_) (a' := ?_) #[Y19,Y19,N19,N19,N19,N19,N19,N19,N19,N19,N19,N19,N19,N19,N19,N19] rfl rfl (any_of HT_.out (by kernel_rfl)) (fun _ _ _ h => h) (Or.inl ⟨by rfl, ?_⟩) ?_ ?_; rotate_left; (intro w'; go_simp; with_reducible rfl); rotate_left; (simp only [pq19]; rfl)
          refine pure_ (i := 2) (N := some 33) (v := ?_) (a' := ?_) #[Y19,Y19,Y19,N19,N19,N19,N19,N19,N19,N19,N19,N19,N19,N19,N19,N19] rfl rfl (any_of HT_.out (by kernel_rfl)) (fun _ _ _ h => h) (Or.inl ⟨by rfl, ?_⟩) ?_ ?_; rotate_left; (intro w'; go_simp; with_reducible rfl); rotate_left; (simp only [pq19]; rfl)
          refine pure_ (i := 3) (N := some 34) (v := undef) (a' := ?_) #[Y19,Y19,Y19,Y19,N19,N19,N19,N19,N19,N19,N19,N19,N19,N19,N19,N19] rfl rfl (any_of HT_.out (by kernel_rfl)) (fun _ _ _ h => h) (Or.inr ⟨by rfl, rfl⟩) ?_ ?_
          rotate_left
          · simp only [pq19]
            rfl
          refine pure_ (i := 4) (N := some 35) (v := undef) (a' := ?_) #[Y19,Y19,Y19,Y19,Y19,N19,N19,N19,N19,N19,N19,N19,N19,N19,N19,N19] rfl rfl (any_of HT_.out (by kernel_rfl)) (fun _ _ _ h => h) (Or.inr ⟨by rfl, rfl⟩) ?_ ?_
          rotate_left
          · simp only [pq19]
            rfl
          refine pure_ (i := 5) (N := some 36) (v := undef) (a' := ?_) #[Y19,Y19,Y19,Y19,Y19,Y19,N19,N19,N19,N19,N19,N19,N19,N19,N19,N19] rfl rfl (any_of HT_.out (by kernel_rfl)) (fun _ _ _ h => h) (Or.inr ⟨by rfl, rfl⟩) ?_ ?_
          rotate_left
          · simp only [pq19]
            rfl
          refine pure_ (i := 6) (N := some 37) (v := undef) (a' := ?_) #[Y19,Y19,Y19,Y19,Y19,Y19,Y19,N19,N19,N19,N19,N19,N19,N19,N19,N19] rfl rfl (any_of HT_.out (by kernel_rfl)) (fun _ _ _ h => h) (Or.inr ⟨by rfl, rfl⟩) ?_ ?_
          rotate_left
          · simp only [pq19]
            rfl
          refine pure_ (i := 7) (N := some 38) (v := undef) (a' := ?_) #[Y19,Y19,Y19,Y19,Y19,Y19,Y19,Y19,N19,N19,N19,N19,N19,N19,N19,N19] rfl rfl (any_of HT_.out (by kernel_rfl)) (fun _ _ _ h => h) (Or.inr ⟨by rfl, rfl⟩) ?_ ?_
          rotate_left
          · simp only [pq19]
            rfl
          refine pure_ (i := 8) (N := some 39) (v := undef) (a' := ?_) #[Y19,Y19,Y19,Y19,Y19,Y19,Y19,Y19,Y19,N19,N19,N19,N19,N19,N19,N19] rfl rfl (any_of HT_.out (by kernel_rfl)) (fun _ _ _ h => h) (Or.inr ⟨by rfl, rfl⟩) ?_ ?_
          rotate_left
          · simp only [pq19]
            rfl
          refine pure_ (i := 9) (N := some 40) (v := undef) (a' := ?_) #[Y19,Y19,Y19,Y19,Y19,Y19,Y19,Y19,Y19,Y19,N19,N19,N19,N19,N19,N19] rfl rfl (any_of HT_.out (by kernel_rfl)) (fun _ _ _ h => h) (Or.inr ⟨by rfl, rfl⟩) ?_ ?_
          rotate_left
          · simp only [pq19]
            rfl
          refine pure_ (i := 10) (N := some 41) (v := undef) (a' := ?_) #[Y19,Y19,Y19,Y19,Y19,Y19,Y19,Y19,Y19,Y19,Y19,N19,N19,N19,N19,N19] rfl rfl (any_of HT_.out (by kernel_rfl)) (fun _ _ _ h => h) (Or.inr ⟨by rfl, rfl⟩) ?_ ?_
          rotate_left
          · simp only [pq19]
            rfl
          refine pure_ (i := 11) (N := some 42) (v := undef) (a' := ?_) #[Y19,Y19,Y19,Y19,Y19,Y19,Y19,Y19,Y19,Y19,Y19,Y19,N19,N19,N19,N19] rfl rfl (any_of HT_.out (by kernel_rfl)) (fun _ _ _ h => h) (Or.inr ⟨by rfl, rfl⟩) ?_ ?_
          rotate_left
          · simp only [pq19]
            rfl
          refine pure_ (i := 12) (N := some 43) (v := undef) (a' := ?_) #[Y19,Y19,Y19,Y19,Y19,Y19,Y19,Y19,Y19,Y19,Y19,Y19,Y19,N19,N19,N19] rfl rfl (any_of HT_.out (by kernel_rfl)) (fun _ _ _ h => h) (Or.inr ⟨by rfl, rfl⟩) ?_ ?_
          rotate_left
          · simp only [pq19]
            rfl
          refine pure_ (i := 13) (N := some 44) (v := undef) (a' := ?_) #[Y19,Y19,Y19,Y19,Y19,Y19,Y19,Y19,Y19,Y19,Y19,Y19,Y19,Y19,N19,N19] rfl rfl (any_of HT_.out (by kernel_rfl)) (fun _ _ _ h => h) (Or.inr ⟨by rfl, rfl⟩) ?_ ?_
          rotate_left
          · simp only [pq19]
            rfl
          refine pure_ (i := 14) (N := some 45) (v := undef) (a' := ?_) #[Y19,Y19,Y19,Y19,Y19,Y19,Y19,Y19,Y19,Y19,Y19,Y19,Y19,Y19,Y19,N19] rfl rfl (any_of HT_.out (by kernel_rfl)) (fun _ _ _ h => h) (Or.inr ⟨by rfl, rfl⟩) ?_ ?_
          rotate_left
          · simp only [pq19]
            rfl
          refine pure_ (i := 15) (N := some 46) (v := ?_) (a' := ?_) #[Y19,Y19,Y19,Y19,Y19,Y19,Y19,Y19,Y19,Y19,Y19,Y19,Y19,Y19,Y19,Y19] rfl rfl (any_of HT_.out (by kernel_rfl)) (fun _ _ _ h => h) (Or.inl ⟨by rfl, ?_⟩) ?_ ?_; rotate_left; (intro w'; go_simp; with_reducible rfl); rotate_left; (simp only [pq19]; rfl)
          refine done_ (done_of HT_.out (by kernel_rfl)) ?_
          try go_wp2
          have n0_ := Aside0.mk (Kd.V_drew HO_6.out)
          have n1_ := Aside0.mk (Kd.N_drew HO_8.out)
          have n2_ := Aside0.mk (below_drew1 HB.out)
          clear HO_6 HO_8 HB
          have HO_6 := n0_
          have HO_8 := n1_
          have HB := n2_
          clear n0_ n1_ n2_
          have q50 : (x10_3 : Int) ≤ ((x8_2.length : Int) : Int) := of_decide_eq_true (by first | (with_reducible assumption) | assumption)
          obtain ⟨i050, hi050, _, hsz50, _⟩ := info_parts info36
          have hroom50 : x8_2.length ≤ co10 := (Kd.N_reads' HO_8.out).2.1
          have hC50 : Kd.F k36 _ _ Ao10 x8_2.length x8_2 := (Kd.V_at (base := w.heap.size) (Kd.N_V HO_8.out)).2.2
          have hcut50 := cut_to (P := Tryd.prog) 28 36 .i64 Tryd.underlying28 hi050 Ao10 x8_2.length co10 x10_3 (of_decide_eq_true (by first | (with_reducible assumption) | assumption)) q50 hroom50
          have hr50 := Kd.F_take (m := (x10_3 : Int).toNat) hC50 (by omega)
          have hy50 : y351.length = (x10_3 : Int).toNat := (by rw [Ny351.out, List.length_take]; omega)
          rw [← Ny351.out] at hr50
          rw [← hy50] at hcut50
          have HO355 := Aside0.mk (show Kd.V k36 36 _ w.heap.size _ (.slice Ao10 y351.length co10) y351 from Kd.V_mk (by omega) hr50)
          have HC355 := Aside0.mk (show y351.length ≤ co10 from by omega)
          clear hr50 hC50 hroom50 hi050 hsz50
          have KY50 := Aside0.mk hy50
          clear hy50
          replace q50 := eq_true q50
          have p359 : 0 ≤ (x9_2 : Int) := of_decide_eq_true (by first | (with_reducible assumption) | assumption)
          have q359 : x9_2 < (x6_1.length : Int) := of_decide_eq_true (by first | (with_reducible assumption) | assumption)
          obtain ⟨ad359, A359_1, c359_1, e359, hx359_0, hx359_1, hx359_2, hl359_1, hi359_1⟩ := at_T36 (Kd.V_reads' HO_6.out).2.2 x9_2 p359 q359
          cases e359
          obtain ⟨ce359, hce359, hMe359, hcc359⟩ := Kd.V_get HO_6.out z36 x9_2 p359 (by first | exact q359 | exact of_decide_eq_true (by first | (with_reducible assumption) | assumption) | (have e_ := (Kd.V_reads' HO_6.out).1; omega))
          obtain ⟨ua359_1, uc359_1, rfl, ul359_1, ge359_1⟩ := k36_openF hMe359
          have hv359_1 := hcc359 1 _ rfl
          rw [add_field _ _ 1 (by omega)] at hv359_1
          replace hv359_1 := Option.some.inj (hv359_1.symm.trans hx359_1)
          injection hv359_1 with hva_ hvn_ hvc_
          rw [hva_] at ge359_1
          rw [hvc_] at ul359_1
          have HL359_1 := Aside0.mk (show Kd.V (Kd.int .i64) 3 _ w.heap.size _ _ ((rd_T36 x6_1 x9_2).f0.f1) from Kd.V_mk ul359_1 ge359_1)
          clear hva_ hvn_ hvc_ ge359_1 ul359_1 hcc359 hce359
          have HR359_1 := Aside0.mk hi359_1
          have HC359_1 := Aside0.mk hl359_1
          clear hi359_1 hl359_1
          replace p359 := eq_true p359
          replace q359 := eq_true q359
          have q51 : (x10_3 : Int) ≤ ((x8_2.length : Int) : Int) := of_decide_eq_true (by first | (with_reducible assumption) | assumption)
          obtain ⟨i051, hi051, _, hsz51, _⟩ := info_parts info36
          have hroom51 : x8_2.length ≤ co10 := (Kd.N_reads' HO_8.out).2.1
          have hC51 : Kd.F k36 _ _ Ao10 x8_2.length x8_2 := (Kd.V_at (base := w.heap.size) (Kd.N_V HO_8.out)).2.2
          have q051 : (0 : Int) ≤ (x10_3 : Int) := of_decide_eq_true (by first | (with_reducible assumption) | assumption)
          have hcut51 := cut_from (P := Tryd.prog) 28 36 .i64 Tryd.underlying28 hi051 3 hsz51 Ao10 x8_2.length co10 x10_3 q051 q51
          have hr51 := Kd.F_cut (m := (x10_3 : Int).toNat) (c := co10) hC51 (by omega) hroom51
          obtain ⟨A51, hA51⟩ : ∃ A1, A1 = (if co10 = (x10_3 : Int).toNat then Ao10 else (Ao10 : Option Addr).map (·.add ((x10_3 : Int).toNat * 3))) := ⟨_, rfl⟩
          obtain ⟨c51, hc51⟩ : ∃ c1, c1 = co10 - (x10_3 : Int).toNat := ⟨_, rfl⟩
          have hy51 : y366.length = x8_2.length - (x10_3 : Int).toNat := (by rw [Ny366.out, List.length_drop] <;> omega)
          rw [show (x8_2).drop (x10_3 : Int).toNat = y366 from Ny366.out.symm] at hr51
          replace hr51 : Kd.F k36 _ _ A51 y366.length y366 := (by rw [hA51]; exact hr51)
          rw [← hy51, ← hA51, ← hc51] at hcut51
          have HO370 := Aside0.mk (show Kd.V k36 36 _ w.heap.size _ (.slice A51 y366.length c51) y366 from Kd.V_mk (by rw [hy51, hc51]; exact Nat.sub_le_sub_right hroom51 _) hr51)
          have HC370 := Aside0.mk (show y366.length ≤ c51 from by rw [hy51, hc51]; exact Nat.sub_le_sub_right hroom51 _)
          clear hr51 hC51 hroom51 hi051 hsz51 hc51
          have KY51 := Aside0.mk hy51
          have KA51 := Aside0.mk hA51
          clear hy51 hA51
          replace q51 := eq_true q51
          refine start_ (n := 16) (S := fun w' => w'.cell? (ad359.add ((x9_2).toNat * 3)) = some (.int .i64 ((rd_T36 x6_1 x9_2).f0.f0)) ∧ w'.cell? ⟨(ad359.add ((x9_2).toNat * 3)).block, (ad359.add ((x9_2).toNat * 3)).off + 1, none⟩ = some (.slice A359_1 ((rd_T36 x6_1 x9_2).f0.f1).length c359_1) ∧ w'.cell? ⟨(ad359.add ((x9_2).toNat * 3)).block, (ad359.add ((x9_2).toNat * 3)).off + 2, none⟩ = some (.int .i64 ((rd_T36 x6_1 x9_2).f1))) (ds := []) #[N19,N19,N19,N19,N19,N19,N19,N19,N19,N19,N19,N19,N19,N19,N19,N19] (by kernel_rfl) rfl rfl ⟨hx359_0, hx359_1, hx359_2⟩ (fun hHeld => ?_); refine with_tabW interlocutorref10_Best.tab13 interlocutorref10_Best.bits13 (fun HT_ HW_ => ?_)
          generalize w48.drew = w49 at HO_6 HO_8 HB HL359_1 HO355 HO370 HR359_1 hx359_0 hx359_1 hx359_2 hHeld ⊢
          refine pure_ (i := 1) (N := some 50) (v := ?_) (a' := ?_) #[N19,Y19,N19,N19,N19,N19,N19,N19,N19,N19,N19,N19,N19,N19,N19,N19] rfl rfl (any_of HT_.out (by kernel_rfl)) (fun _ _ _ h => h) (Or.inl ⟨by rfl, ?_⟩) ?_ ?_; rotate_left; (intro w'; go_simp; with_reducible rfl); rotate_left; (simp only [pq19]; rfl)
          refine pure_ (i := 2) (N := some 51) (v := ?_) (a' := ?_) #[N19,Y19,Y19,N19,N19,N19,N19,N19,N19,N19,N19,N19,N19,N19,N19,N19] rfl rfl (any_of HT_.out (by kernel_rfl)) (fun _ _ _ h => h) (Or.inl ⟨by rfl, ?_⟩) ?_ ?_; rotate_left; (intro w'; go_simp; with_reducible rfl); rotate_left; (simp only [pq19]; rfl)
          refine pure_ (i := 3) (N := some 52) (v := ?_) (a' := ?_) #[N19,Y19,Y19,Y19,N19,N19,N19,N19,N19,N19,N19,N19,N19,N19,N19,N19] rfl rfl (any_of HT_.out (by kernel_rfl)) (fun _ _ _ h => h) (Or.inl ⟨by rfl, ?_⟩) ?_ ?_; rotate_left; (intro w'; go_simp; with_reducible rfl); rotate_left; (simp only [pq19]; rfl)
          refine pure_ (i := 5) (N := some 54) (v := ?_) (a' := ?_) #[N19,Y19,Y19,Y19,N19,Y19,N19,N19,N19,N19,N19,N19,N19,N19,N19,N19] rfl rfl (any_of HT_.out (by kernel_rfl)) (fun _ _ _ h => h) (Or.inl ⟨by rfl, ?_⟩) ?_ ?_; rotate_left; (intro w'; go_simp; with_reducible rfl); rotate_left; (simp only [pq19]; rfl)
          refine pure_ (i := 6) (N := some 55) (v := ?_) (a' := ?_) #[N19,Y19,Y19,Y19,N19,Y19,Y19,N19,N19,N19,N19,N19,N19,N19,N19,N19] rfl rfl (any_of HT_.out (by kernel_rfl)) (fun _ _ _ h => h) (Or.inl ⟨by rfl, ?_⟩) ?_ ?_; rotate_left; (intro w'; go_simp; with_reducible rfl); rotate_left; (simp only [pq19]; rfl)
          refine pure_ (i := 7) (N := some 56) (v := ?_) (a' := ?_) #[N19,Y19,Y19,Y19,N19,Y19,Y19,Y19,N19,N19,N19,N19,N19,N19,N19,N19] rfl rfl (any_of HT_.out (by kernel_rfl)) (fun _ _ _ h => h) (Or.inl ⟨by rfl, ?_⟩) ?_ ?_; rotate_left; (intro w'; go_simp; with_reducible rfl); rotate_left; (simp only [pq19]; rfl)
          refine pure_ (i := 11) (N := some 60) (v := ?_) (a' := ?_) #[N19,Y19,Y19,Y19,N19,Y19,Y19,Y19,N19,N19,N19,Y19,N19,N19,N19,N19] rfl rfl (any_of HT_.out (by kernel_rfl)) (fun _ _ _ h => h) (Or.inl ⟨by rfl, ?_⟩) ?_ ?_; rotate_left; (intro w'; go_simp; with_reducible rfl); rotate_left; (simp only [pq19]; rfl)
          refine pure_ (i := 12) (N := some 61) (v := ?_) (a' := ?_) #[N19,Y19,Y19,Y19,N19,Y19,Y19,Y19,N19,N19,N19,Y19,Y19,N19,N19,N19] rfl rfl (any_of HT_.out (by kernel_rfl)) (fun _ _ _ h => h) (Or.inl ⟨by rfl, ?_⟩) ?_ ?_; rotate_left; (intro w'; go_simp; with_reducible rfl); rotate_left; (simp only [pq19]; rfl)
          refine pure_ (i := 13) (N := some 62) (v := ?_) (a' := ?_) #[N19,Y19,Y19,Y19,N19,Y19,Y19,Y19,N19,N19,N19,Y19,Y19,Y19,N19,N19] rfl rfl (any_of HT_.out (by kernel_rfl)) (fun _ _ _ h => h) (Or.inl ⟨by rfl, ?_⟩) ?_ ?_; rotate_left; (intro w'; go_simp; with_reducible rfl); rotate_left; (simp only [pq19]; rfl)
          refine take_ (i := 8) (N := some 57) (v := ?_) (a' := ?_) #[N19,Y19,Y19,Y19,N19,Y19,Y19,Y19,Y19,N19,N19,Y19,Y19,Y19,N19,N19] rfl rfl (take_ofW HT_.out HW_.out (by kernel_rfl)) (fun _ _ _ h => h) (Or.inl ⟨by rfl, ?_⟩) hHeld ?_ ?_
          rotate_left
          · rintro w' ⟨s0, s1, s2⟩
            go_simp
            with_reducible rfl
          rotate_left
          · simp only [pq19]
            rfl
          refine join_ (σ := Value × Value × Value) 3 #[Y19,Y19,Y19,Y19,Y19,Y19,Y19,Y19,Y19,Y19,N19,Y19,Y19,Y19,N19,N19] (fun s_ => [(49, s_.1), (53, s_.2.1), (58, s_.2.2)]) (fun s_ w' => (w'.cell? (ad359.add ((x9_2).toNat * 3)) = some (.int .i64 ((rd_T36 x6_1 x9_2).f0.f0)) ∧ w'.cell? ⟨(ad359.add ((x9_2).toNat * 3)).block, (ad359.add ((x9_2).toNat * 3)).off + 1, none⟩ = some (.slice A359_1 ((rd_T36 x6_1 x9_2).f0.f1).length c359_1) ∧ w'.cell? ⟨(ad359.add ((x9_2).toNat * 3)).block, (ad359.add ((x9_2).toNat * 3)).off + 2, none⟩ = some (.int .i64 ((rd_T36 x6_1 x9_2).f1))) ∧ (Kd.V (Kd.int .i64) 3 w' w.heap.size (fun k_ => (P0_ k_ ∨ w.heap.size ≤ k_) ∧ some k_ ≠ (s_.2.1 : Value).ownBlock ∧ some k_ ≠ (s_.2.2 : Value).ownBlock ∧ some k_ ≠ (.slice Ao10 x8_2.length co10 : Value).ownBlock) (.slice A359_1 ((rd_T36 x6_1 x9_2).f0.f1).length c359_1) ((rd_T36 x6_1 x9_2).f0.f1)) ∧ (Kd.V k36 36 w' w.heap.size (fun k_ => (P0_ k_ ∨ w.heap.size ≤ k_) ∧ some k_ ≠ (s_.2.1 : Value).ownBlock ∧ some k_ ≠ (s_.2.2 : Value).ownBlock) (.slice Ao10 y351.length co10) y351) ∧ (Kd.N k36 36 w' w.heap.size (fun k_ => (P0_ k_ ∨ w.heap.size ≤ k_) ∧ some k_ ≠ (s_.2.2 : Value).ownBlock) s_.2.1 y356) ∧ (Kd.N k36 36 w' w.heap.size (fun k_ => (P0_ k_ ∨ w.heap.size ≤ k_) ∧ some k_ ≠ (s_.2.1 : Value).ownBlock ∧ some k_ ≠ (.slice Ao10 x8_2.length co10 : Value).ownBlock) s_.2.2 y360) ∧ (Kd.V k36 36 w' w.heap.size (fun k_ => (P0_ k_ ∨ w.heap.size ≤ k_) ∧ some k_ ≠ (s_.2.1 : Value).ownBlock ∧ some k_ ≠ (s_.2.2 : Value).ownBlock) (.slice A51 y366.length c51) y366) ∧ (Kd.V k36 36 w' w.heap.size (fun k_ => (P0_ k_ ∨ w.heap.size ≤ k_) ∧ some k_ ≠ (s_.2.1 : Value).ownBlock ∧ some k_ ≠ (s_.2.2 : Value).ownBlock ∧ some k_ ≠ (.slice Ao10 x8_2.length co10 : Value).ownBlock) (.slice (some ad359) x6_1.length co9) x6_1) ∧ (Kd.N k36 36 w' w.heap.size (fun k_ => (P0_ k_ ∨ w.heap.size ≤ k_) ∧ some k_ ≠ (s_.2.1 : Value).ownBlock ∧ some k_ ≠ (s_.2.2 : Value).ownBlock) (.slice Ao10 x8_2.length co10) x8_2) ∧ (Below w.heap.size w w')) ?_ ?_
          rotate_left
          · intro hCont
            refine two_ (i := 0) (j := 9) (Ni := some 49) (Nj := some 58) #[Y19,Y19,Y19,Y19,N19,Y19,Y19,Y19,Y19,N19,N19,Y19,Y19,Y19,N19,N19] #[N19,Y19,Y19,Y19,N19,Y19,Y19,Y19,Y19,Y19,N19,Y19,Y19,Y19,N19,N19] rfl rfl rfl rfl (two_of HT_.out (by kernel_rfl)) (by decide) (by decide) (fun K hK => ?_) (fun K hK => ?_)
            rotate_left
            · skip
              refine Kd.N_lit_step k36 _ 36 ?hg (N' := 58) ?hd (xs := ([(⟨(⟨(rd_T36 x6_1 x9_2).f0.f0, (rd_T36 x6_1 x9_2).f0.f1⟩ : S24), (rd_T36 x6_1 x9_2).f1⟩ : S36)] : List (S36))) (inner := [.int .i64 ((rd_T36 x6_1 x9_2).f0.f0), .slice A359_1 ((rd_T36 x6_1 x9_2).f0.f1).length c359_1, .int .i64 ((rd_T36 x6_1 x9_2).f1)]) (ok := (fun k_ => (P0_ k_ ∨ w.heap.size ≤ k_) ∧ some k_ ≠ (.slice Ao10 x8_2.length co10 : Value).ownBlock)) (okp := (fun k_ => (P0_ k_ ∨ w.heap.size ≤ k_) ∧ some k_ ≠ (.slice Ao10 x8_2.length co10 : Value).ownBlock)) ?hr ?hp (fun _ hk => hk) ((show ∀ k_, w49.heap.size ≤ k_ → (fun k_ => (P0_ k_ ∨ w.heap.size ≤ k_) ∧ some k_ ≠ (.slice Ao10 x8_2.length co10 : Value).ownBlock) k_ from fun k_ hk => ⟨(.inr (Nat.le_trans (below_size (by exact wU HB.out)) hk)), Kd.fresh' (Kd.N_lt (by exact nU HO_8.out)) k_ hk⟩) _ (Nat.le_refl _)) (Below.refl _ _) (Nat.le_refl _) (by simp) ?_; (case hd => rfl); (case hg => rfl); (case hr => first | (go_simp; done) | (go_simp; rfl)); (case hp => exact (Reps.c3 (show Kd.FK k36 _ _ (⟨(⟨(rd_T36 x6_1 x9_2).f0.f0, (rd_T36 x6_1 x9_2).f0.f1⟩ : S24), (rd_T36 x6_1 x9_2).f1⟩ : S36) [.int .i64 ((rd_T36 x6_1 x9_2).f0.f0), .slice A359_1 ((rd_T36 x6_1 x9_2).f0.f1).length c359_1, .int .i64 ((rd_T36 x6_1 x9_2).f1)] from (k36_mkF _ _ (⟨(⟨(rd_T36 x6_1 x9_2).f0.f0, (rd_T36 x6_1 x9_2).f0.f1⟩ : S24), (rd_T36 x6_1 x9_2).f1⟩ : S36) (Kd.V_reads' (Kd.V_mono (ok' := (fun k_ => (P0_ k_ ∨ w.heap.size ≤ k_) ∧ some k_ ≠ (.slice Ao10 x8_2.length co10 : Value).ownBlock)) (HL359_1.out) (fun k_ hk => ⟨hk.1, hk.2⟩))).2.1 (Kd.V_F (Kd.V_mono (ok' := (fun k_ => (P0_ k_ ∨ w.heap.size ≤ k_) ∧ some k_ ≠ (.slice Ao10 x8_2.length co10 : Value).ownBlock)) (HL359_1.out) (fun k_ hk => ⟨hk.1, hk.2⟩))))) (Reps.none _ _)))
              intro v361 w52 ho53 hb hg_ hnew_
              have HS0_ := (hb.cell (World.block_lt_of_cell? _ _ (hHeld.1))).trans (hHeld.1)
              have HS1_ := (hb.cell (World.block_lt_of_cell? _ _ (hHeld.2.1))).trans (hHeld.2.1)
              have HS2_ := (hb.cell (World.block_lt_of_cell? _ _ (hHeld.2.2))).trans (hHeld.2.2)
              clear hg_ hnew_
              (first | rw [← Ny360.out] at ho53 | (simp only [Int.reduceToNat] at ho53; rw [← Ny360.out] at ho53))
              have n0_ := Aside0.mk (Kd.V_elder' (by exact vU HO_6.out) (Kd.N_base ho53) hb)
              have n1_ := Aside0.mk (Kd.N_elder' (by exact nU HO_8.out) (Kd.N_base ho53) hb)
              have n2_ := Aside0.mk (Kd.V_elder' (by exact vU HO355.out) (Kd.N_base ho53) hb)
              have n3_ := Aside0.mk (Kd.V_elder' (by exact vU HL359_1.out) (Kd.N_base ho53) hb)
              have n4_ := Aside0.mk (Kd.V_elder' (by exact vU HO370.out) (Kd.N_base ho53) hb)
              have n5_ := Aside0.mk (Kd.N_lower ho53 (below_size (by exact wU HB.out)))
              have n6_ := Aside0.mk (Kd.C_below (by repeat (first | (with_reducible exact HR359_1.out) | (with_reducible refine Kd.C_alloc ?_ _) | (with_reducible refine Kd.C_drewN ?_ _) | (with_reducible refine Kd.C_drew ?_) | exact HR359_1.out)) hb)
              have n7_ := Aside0.mk (below_step (by exact wU HB.out) hb)
              clear HO_6 HO_8 HO355 HL359_1 HO370 HR359_1 HB
              have HO_6 := n0_
              have HO_8 := n1_
              have HO355 := n2_
              have HL359_1 := n3_
              have HO370 := n4_
              have HO362 := n5_
              have HR359_1 := n6_
              have HB := n7_
              clear n0_ n1_ n2_ n3_ n4_ n5_ n6_ n7_ hb ho53
              refine hK.out _ _ ⟨HS0_, HS1_, HS2_⟩ (fun hHeld => ?_)
              clear hK K
              refine norm_ (a' := ?_) ?_ ?_
              rotate_left
              · show Act.put _ (some 58) _ = _
                simp only [pq19]
                rfl
              refine one_ (i := 0) (N := some 49) #[Y19,Y19,Y19,Y19,N19,Y19,Y19,Y19,Y19,Y19,N19,Y19,Y19,Y19,N19,N19] rfl rfl (one_of HT_.out (by kernel_rfl)) (by decide) (fun K hK => ?_)
              refine Kd.N_lit_step k36 _ 36 ?hg (N' := 49) ?hd (xs := ([] : List (S36))) (inner := []) (ok := (fun k_ => (P0_ k_ ∨ w.heap.size ≤ k_) ∧ some k_ ≠ (.slice Ao10 x8_2.length co10 : Value).ownBlock ∧ some k_ ≠ (v361 : Value).ownBlock)) (okp := (fun k_ => (P0_ k_ ∨ w.heap.size ≤ k_) ∧ some k_ ≠ (.slice Ao10 x8_2.length co10 : Value).ownBlock ∧ some k_ ≠ (v361 : Value).ownBlock)) ?hr ?hp (fun _ hk => hk) ((show ∀ k_, w52.heap.size ≤ k_ → (fun k_ => (P0_ k_ ∨ w.heap.size ≤ k_) ∧ some k_ ≠ (.slice Ao10 x8_2.length co10 : Value).ownBlock ∧ some k_ ≠ (v361 : Value).ownBlock) k_ from fun k_ hk => ⟨(.inr (Nat.le_trans (below_size (by exact wU HB.out)) hk)), Kd.fresh' (Kd.N_lt (by exact nU HO_8.out)) k_ hk, Kd.fresh' (Kd.N_lt (by exact nU HO362.out)) k_ hk⟩) _ (Nat.le_refl _)) (Below.refl _ _) (Nat.le_refl _) (by simp) ?_; (case hd => rfl); (case hg => rfl); (case hr => first | (go_simp; done) | (go_simp; rfl)); (case hp => exact (Reps.none _ _))
              intro v349 w54 ho55 hb hg_ hnew_
              have HS0_ := (hb.cell (World.block_lt_of_cell? _ _ (hHeld.1))).trans (hHeld.1)
              have HS1_ := (hb.cell (World.block_lt_of_cell? _ _ (hHeld.2.1))).trans (hHeld.2.1)
              have HS2_ := (hb.cell (World.block_lt_of_cell? _ _ (hHeld.2.2))).trans (hHeld.2.2)
              clear hg_ hnew_
              (first | rw [← Ny348.out] at ho55 | (simp only [Int.reduceToNat] at ho55; rw [← Ny348.out] at ho55))
              have n0_ := Aside0.mk (Kd.V_elder' (by exact vU HO_6.out) (Kd.N_base ho55) hb)
              have n1_ := Aside0.mk (Kd.N_elder' (by exact nU HO_8.out) (Kd.N_base ho55) hb)
              have n2_ := Aside0.mk (Kd.V_elder' (by exact vU HO355.out) (Kd.N_base ho55) hb)
              have n3_ := Aside0.mk (Kd.V_elder' (by exact vU HL359_1.out) (Kd.N_base ho55) hb)
              have n4_ := Aside0.mk (Kd.V_elder' (by exact vU HO370.out) (Kd.N_base ho55) hb)
              have n5_ := Aside0.mk (Kd.N_elder' (by exact nU HO362.out) (Kd.N_base ho55) hb)
              have n6_ := Aside0.mk (Kd.N_lower ho55 (below_size (by exact wU HB.out)))
              have n7_ := Aside0.mk (Kd.C_below (by repeat (first | (with_reducible exact HR359_1.out) | (with_reducible refine Kd.C_alloc ?_ _) | (with_reducible refine Kd.C_drewN ?_ _) | (with_reducible refine Kd.C_drew ?_) | exact HR359_1.out)) hb)
              have n8_ := Aside0.mk (below_step (by exact wU HB.out) hb)
              clear HO_6 HO_8 HO355 HL359_1 HO370 HO362 HR359_1 HB
              have HO_6 := n0_
              have HO_8 := n1_
              have HO355 := n2_
              have HL359_1 := n3_
              have HO370 := n4_
              have HO362 := n5_
              have HO350 := n6_
              have HR359_1 := n7_
              have HB := n8_
              clear n0_ n1_ n2_ n3_ n4_ n5_ n6_ n7_ n8_ hb ho55
              refine hK.out _ _ ⟨HS0_, HS1_, HS2_⟩ (fun hHeld => ?_)
              clear hK K
              refine norm_ (a' := ?_) ?_ ?_
              rotate_left
              · show Act.put _ (some 49) _ = _
                simp only [pq19]
                rfl
              refine one_ (i := 4) (N := some 53) #[Y19,Y19,Y19,Y19,Y19,Y19,Y19,Y19,Y19,Y19,N19,Y19,Y19,Y19,N19,N19] rfl rfl (one_of HT_.out (by kernel_rfl)) (by decide) (fun K hK => ?_)
              refine Kd.N_append_rows_step k36 (w0 := w) w.heap.size (by rfl) (.tmp 49) (.tmp 52) 28 36 (.agg #[(.int .i64 0), (.slice none 0 0), (.int .i64 0)]) 40 rfl Tryd.underlying28 info36 rfl (by decide) (by omega) v349 y348 y351 _ _ _ (fun k_ => (P0_ k_ ∨ w.heap.size ≤ k_) ∧ some k_ ≠ (v361 : Value).ownBlock) (fun k_ => ((fun k_ => (P0_ k_ ∨ w.heap.size ≤ k_) ∧ some k_ ≠ (v361 : Value).ownBlock)) k_ ∧ some k_ ≠ (v349 : Value).ownBlock) rfl rfl ?aO ?aR (fun _ hk => hk) ?aF ?aB ?aS ?aL ?_
              (case aR => exact (by skip; exact Kd.V_F (Kd.V_mono (ok' := (fun k_ => ((fun k_ => (P0_ k_ ∨ w.heap.size ≤ k_) ∧ some k_ ≠ (v361 : Value).ownBlock)) k_ ∧ some k_ ≠ (v349 : Value).ownBlock)) (HO355.out) (fun k_ hk => ⟨⟨hk.1.1, hk.1.2⟩, hk.2⟩))))
              (case aB => exact (by exact wU HB.out))
              (case aF => exact (fun k_ hk => ⟨(.inr (Nat.le_trans (below_size (by exact wU HB.out)) hk)), Kd.fresh' (Kd.N_lt (by exact nU HO362.out)) k_ hk⟩))
              (case aO => exact (by exact nU (Kd.N_mono HO350.out (fun _ hk => ⟨hk.1, hk.2.2⟩))))
              (case aS => exact (below_size (by exact wU HB.out)))
              (case aL => have := LMc41.out; omega)
              intro v357 w56 ho hb hg hat
              have HS0_ := cgz hg (hHeld.1) (by show some (Addr.add _ _).block ≠ _; rw [add_block]; have h_ := V_ok HO_6.out (by decide) (vpos ‹_› ‹_›); first | exact h_.2 | exact h_.1.2 | exact h_.1.1.2 | exact h_.2.1 | exact h_.2.2)
              have HS1_ := cgz hg (hHeld.2.1) (by show some (Addr.add _ _).block ≠ _; rw [add_block]; have h_ := V_ok HO_6.out (by decide) (vpos ‹_› ‹_›); first | exact h_.2 | exact h_.1.2 | exact h_.1.1.2 | exact h_.2.1 | exact h_.2.2)
              have HS2_ := cgz hg (hHeld.2.2) (by show some (Addr.add _ _).block ≠ _; rw [add_block]; have h_ := V_ok HO_6.out (by decide) (vpos ‹_› ‹_›); first | exact h_.2 | exact h_.1.2 | exact h_.1.1.2 | exact h_.2.1 | exact h_.2.2)
              rw [← Ny356.out] at ho
              have n0_ := Aside0.mk (Kd.V_afterv (ok := (fun k_ => (P0_ k_ ∨ w.heap.size ≤ k_) ∧ some k_ ≠ (.slice Ao10 x8_2.length co10 : Value).ownBlock ∧ some k_ ≠ (v361 : Value).ownBlock)) (by exact vU (Kd.V_mono HO_6.out (fun _ hk => ⟨⟨hk.1.1.1, ⟨hk.1.1.2, hk.1.2⟩⟩, hk.2⟩))) hg hat)
              have n1_ := Aside0.mk (Kd.N_afterv (ok := (fun k_ => (P0_ k_ ∨ w.heap.size ≤ k_) ∧ some k_ ≠ (v361 : Value).ownBlock)) (by exact nU HO_8.out) hg hat)
              have n2_ := Aside0.mk (Kd.V_afterv (ok := (fun k_ => (P0_ k_ ∨ w.heap.size ≤ k_) ∧ some k_ ≠ (v361 : Value).ownBlock)) (by exact vU HO355.out) hg hat)
              have n3_ := Aside0.mk (Kd.V_afterv (ok := (fun k_ => (P0_ k_ ∨ w.heap.size ≤ k_) ∧ some k_ ≠ (.slice Ao10 x8_2.length co10 : Value).ownBlock ∧ some k_ ≠ (v361 : Value).ownBlock)) (by exact vU (Kd.V_mono HL359_1.out (fun _ hk => ⟨⟨hk.1.1.1, ⟨hk.1.1.2, hk.1.2⟩⟩, hk.2⟩))) hg hat)
              have n4_ := Aside0.mk (Kd.V_afterv (ok := (fun k_ => (P0_ k_ ∨ w.heap.size ≤ k_) ∧ some k_ ≠ (v361 : Value).ownBlock)) (by exact vU HO370.out) hg hat)
              have n5_ := Aside0.mk (Kd.N_afterv (ok := (fun k_ => (P0_ k_ ∨ w.heap.size ≤ k_) ∧ some k_ ≠ (.slice Ao10 x8_2.length co10 : Value).ownBlock)) (by exact nU HO362.out) hg hat)
              have n6_ := Aside0.mk (hb)
              have n7_ := Aside0.mk (ho)
              clear HO_6 HO_8 HO355 HL359_1 HO370 HO362 HB HO350
              have HO_6 := n0_
              have HO_8 := n1_
              have HO355 := n2_
              have HL359_1 := n3_
              have HO370 := n4_
              have HO362 := n5_
              have HB := n6_
              have HO358 := n7_
              clear n0_ n1_ n2_ n3_ n4_ n5_ n6_ n7_ ho hb hg hat
              refine hK.out _ _ ⟨HS0_, HS1_, HS2_⟩ (fun hHeld => ?_)
              clear hK K
              refine norm_ (a' := ?_) ?_ ?_
              rotate_left
              · show Act.put _ (some 53) _ = _
                simp only [pq19]
                rfl
              exact norm_ (by simp only [putAll, Act.put, List.setIfInBounds_toArray, List.set_cons_zero, List.set_cons_succ]) (hCont (v349, v357, v361) _ ⟨hHeld, (by exact vU (Kd.V_mono HL359_1.out (fun _ hk => ⟨hk.1.1, ⟨hk.2, ⟨hk.1.2.2, hk.1.2.1⟩⟩⟩))), (by exact vU (Kd.V_mono HO355.out (fun _ hk => ⟨hk.1.1, ⟨hk.2, hk.1.2⟩⟩))), (by exact nU HO358.out), (by exact nU (Kd.N_mono HO362.out (fun _ hk => ⟨hk.1.1, ⟨hk.2, hk.1.2⟩⟩))), (by exact vU (Kd.V_mono HO370.out (fun _ hk => ⟨hk.1.1, ⟨hk.2, hk.1.2⟩⟩))), (by exact vU (Kd.V_mono HO_6.out (fun _ hk => ⟨hk.1.1, ⟨hk.2, ⟨hk.1.2.2, hk.1.2.1⟩⟩⟩))), (by exact nU (Kd.N_mono HO_8.out (fun _ hk => ⟨hk.1.1, ⟨hk.2, hk.1.2⟩⟩))), (by exact wU HB.out)⟩)
            skip
            refine Kd.N_lit_step k36 _ 36 ?hg (N' := 49) ?hd (xs := ([] : List (S36))) (inner := []) (ok := (fun k_ => (P0_ k_ ∨ w.heap.size ≤ k_) ∧ some k_ ≠ (.slice Ao10 x8_2.length co10 : Value).ownBlock)) (okp := (fun k_ => (P0_ k_ ∨ w.heap.size ≤ k_) ∧ some k_ ≠ (.slice Ao10 x8_2.length co10 : Value).ownBlock)) ?hr ?hp (fun _ hk => hk) ((show ∀ k_, w49.heap.size ≤ k_ → (fun k_ => (P0_ k_ ∨ w.heap.size ≤ k_) ∧ some k_ ≠ (.slice Ao10 x8_2.length co10 : Value).ownBlock) k_ from fun k_ hk => ⟨(.inr (Nat.le_trans (below_size (by exact wU HB.out)) hk)), Kd.fresh' (Kd.N_lt (by exact nU HO_8.out)) k_ hk⟩) _ (Nat.le_refl _)) (Below.refl _ _) (Nat.le_refl _) (by simp) ?_; (case hd => rfl); (case hg => rfl); (case hr => first | (go_simp; done) | (go_simp; rfl)); (case hp => exact (Reps.none _ _))
            intro v349 w52 ho53 hb hg_ hnew_
            have HS0_ := (hb.cell (World.block_lt_of_cell? _ _ (hHeld.1))).trans (hHeld.1)
            have HS1_ := (hb.cell (World.block_lt_of_cell? _ _ (hHeld.2.1))).trans (hHeld.2.1)
            have HS2_ := (hb.cell (World.block_lt_of_cell? _ _ (hHeld.2.2))).trans (hHeld.2.2)
            clear hg_ hnew_
            (first | rw [← Ny348.out] at ho53 | (simp only [Int.reduceToNat] at ho53; rw [← Ny348.out] at ho53))
            have n0_ := Aside0.mk (Kd.V_elder' (by exact vU HO_6.out) (Kd.N_base ho53) hb)
            have n1_ := Aside0.mk (Kd.N_elder' (by exact nU HO_8.out) (Kd.N_base ho53) hb)
            have n2_ := Aside0.mk (Kd.V_elder' (by exact vU HO355.out) (Kd.N_base ho53) hb)
            have n3_ := Aside0.mk (Kd.V_elder' (by exact vU HL359_1.out) (Kd.N_base ho53) hb)
            have n4_ := Aside0.mk (Kd.V_elder' (by exact vU HO370.out) (Kd.N_base ho53) hb)
            have n5_ := Aside0.mk (Kd.N_lower ho53 (below_size (by exact wU HB.out)))
            have n6_ := Aside0.mk (Kd.C_below (by repeat (first | (with_reducible exact HR359_1.out) | (with_reducible refine Kd.C_alloc ?_ _) | (with_reducible refine Kd.C_drewN ?_ _) | (with_reducible refine Kd.C_drew ?_) | exact HR359_1.out)) hb)
            have n7_ := Aside0.mk (below_step (by exact wU HB.out) hb)
            clear HO_6 HO_8 HO355 HL359_1 HO370 HR359_1 HB
            have HO_6 := n0_
            have HO_8 := n1_
            have HO355 := n2_
            have HL359_1 := n3_
            have HO370 := n4_
            have HO350 := n5_
            have HR359_1 := n6_
            have HB := n7_
            clear n0_ n1_ n2_ n3_ n4_ n5_ n6_ n7_ hb ho53
            refine hK.out _ _ ⟨HS0_, HS1_, HS2_⟩ (fun hHeld => ?_)
            clear hK K
            refine norm_ (a' := ?_) ?_ ?_
            rotate_left
            · show Act.put _ (some 49) _ = _
              simp only [pq19]
              rfl
            refine two_ (i := 4) (j := 9) (Ni := some 53) (Nj := some 58) #[Y19,Y19,Y19,Y19,Y19,Y19,Y19,Y19,Y19,N19,N19,Y19,Y19,Y19,N19,N19] #[Y19,Y19,Y19,Y19,N19,Y19,Y19,Y19,Y19,Y19,N19,Y19,Y19,Y19,N19,N19] rfl rfl rfl rfl (two_of HT_.out (by kernel_rfl)) (by decide) (by decide) (fun K hK => ?_) (fun K hK => ?_)
            · skip
              refine Kd.N_append_rows_step k36 (w0 := w) w.heap.size (by rfl) (.tmp 49) (.tmp 52) 28 36 (.agg #[(.int .i64 0), (.slice none 0 0), (.int .i64 0)]) 40 rfl Tryd.underlying28 info36 rfl (by decide) (by omega) v349 y348 y351 _ _ _ (fun k_ => (P0_ k_ ∨ w.heap.size ≤ k_)) (fun k_ => ((fun k_ => (P0_ k_ ∨ w.heap.size ≤ k_))) k_ ∧ some k_ ≠ (v349 : Value).ownBlock) rfl rfl ?aO ?aR (fun _ hk => hk) ?aF ?aB ?aS ?aL ?_
              (case aR => exact (by skip; exact Kd.V_F (Kd.V_mono (ok' := (fun k_ => ((fun k_ => (P0_ k_ ∨ w.heap.size ≤ k_))) k_ ∧ some k_ ≠ (v349 : Value).ownBlock)) (HO355.out) (fun k_ hk => ⟨hk.1, hk.2⟩))))
              (case aB => exact (by exact wU HB.out))
              (case aF => exact (fun k_ hk => (.inr (Nat.le_trans (below_size (by exact wU HB.out)) hk))))
              (case aO => exact (by exact nU (Kd.N_mono HO350.out (fun _ hk => hk.1))))
              (case aS => exact (below_size (by exact wU HB.out)))
              (case aL => have := LMc41.out; omega)
              intro v357 w54 ho hb hg hat
              have HS0_ := cgz hg (hHeld.1) (by show some (Addr.add _ _).block ≠ _; rw [add_block]; have h_ := V_ok HO_6.out (by decide) (vpos ‹_› ‹_›); first | exact h_.2 | exact h_.1.2 | exact h_.1.1.2 | exact h_.2.1 | exact h_.2.2)
              have HS1_ := cgz hg (hHeld.2.1) (by show some (Addr.add _ _).block ≠ _; rw [add_block]; have h_ := V_ok HO_6.out (by decide) (vpos ‹_› ‹_›); first | exact h_.2 | exact h_.1.2 | exact h_.1.1.2 | exact h_.2.1 | exact h_.2.2)
              have HS2_ := cgz hg (hHeld.2.2) (by show some (Addr.add _ _).block ≠ _; rw [add_block]; have h_ := V_ok HO_6.out (by decide) (vpos ‹_› ‹_›); first | exact h_.2 | exact h_.1.2 | exact h_.1.1.2 | exact h_.2.1 | exact h_.2.2)
              rw [← Ny356.out] at ho
              have n0_ := Aside0.mk (Kd.V_afterv (ok := (fun k_ => (P0_ k_ ∨ w.heap.size ≤ k_) ∧ some k_ ≠ (.slice Ao10 x8_2.length co10 : Value).ownBlock)) (by exact vU HO_6.out) hg hat)
              have n1_ := Aside0.mk (Kd.N_afterv (ok := (fun k_ => (P0_ k_ ∨ w.heap.size ≤ k_))) (by exact nU HO_8.out) hg hat)
              have n2_ := Aside0.mk (Kd.V_afterv (ok := (fun k_ => (P0_ k_ ∨ w.heap.size ≤ k_))) (by exact vU HO355.out) hg hat)
              have n3_ := Aside0.mk (Kd.V_afterv (ok := (fun k_ => (P0_ k_ ∨ w.heap.size ≤ k_) ∧ some k_ ≠ (.slice Ao10 x8_2.length co10 : Value).ownBlock)) (by exact vU HL359_1.out) hg hat)
              have n4_ := Aside0.mk (Kd.V_afterv (ok := (fun k_ => (P0_ k_ ∨ w.heap.size ≤ k_))) (by exact vU HO370.out) hg hat)
              have n5_ := Aside0.mk (hb)
              have n6_ := Aside0.mk (ho)
              clear HO_6 HO_8 HO355 HL359_1 HO370 HB HO350
              have HO_6 := n0_
              have HO_8 := n1_
              have HO355 := n2_
              have HL359_1 := n3_
              have HO370 := n4_
              have HB := n5_
              have HO358 := n6_
              clear n0_ n1_ n2_ n3_ n4_ n5_ n6_ ho hb hg hat
              refine hK.out _ _ ⟨HS0_, HS1_, HS2_⟩ (fun hHeld => ?_)
              clear hK K
              refine norm_ (a' := ?_) ?_ ?_
              rotate_left
              · show Act.put _ (some 53) _ = _
                simp only [pq19]
                rfl
              refine one_ (i := 9) (N := some 58) #[Y19,Y19,Y19,Y19,Y19,Y19,Y19,Y19,Y19,Y19,N19,Y19,Y19,Y19,N19,N19] rfl rfl (one_of HT_.out (by kernel_rfl)) (by decide) (fun K hK => ?_)
              refine Kd.N_lit_step k36 _ 36 ?hg (N' := 58) ?hd (xs := ([(⟨(⟨(rd_T36 x6_1 x9_2).f0.f0, (rd_T36 x6_1 x9_2).f0.f1⟩ : S24), (rd_T36 x6_1 x9_2).f1⟩ : S36)] : List (S36))) (inner := [.int .i64 ((rd_T36 x6_1 x9_2).f0.f0), .slice A359_1 ((rd_T36 x6_1 x9_2).f0.f1).length c359_1, .int .i64 ((rd_T36 x6_1 x9_2).f1)]) (ok := (fun k_ => (P0_ k_ ∨ w.heap.size ≤ k_) ∧ some k_ ≠ (.slice Ao10 x8_2.length co10 : Value).ownBlock ∧ some k_ ≠ (v357 : Value).ownBlock)) (okp := (fun k_ => (P0_ k_ ∨ w.heap.size ≤ k_) ∧ some k_ ≠ (.slice Ao10 x8_2.length co10 : Value).ownBlock ∧ some k_ ≠ (v357 : Value).ownBlock)) ?hr ?hp (fun _ hk => hk) ((show ∀ k_, w54.heap.size ≤ k_ → (fun k_ => (P0_ k_ ∨ w.heap.size ≤ k_) ∧ some k_ ≠ (.slice Ao10 x8_2.length co10 : Value).ownBlock ∧ some k_ ≠ (v357 : Value).ownBlock) k_ from fun k_ hk => ⟨(.inr (Nat.le_trans (below_size (by exact wU HB.out)) hk)), Kd.fresh' (Kd.N_lt (by exact nU HO_8.out)) k_ hk, Kd.fresh' (Kd.N_lt (by exact nU HO358.out)) k_ hk⟩) _ (Nat.le_refl _)) (Below.refl _ _) (Nat.le_refl _) (by simp) ?_; (case hd => rfl); (case hg => rfl); (case hr => first | (go_simp; done) | (go_simp; rfl)); (case hp => exact (Reps.c3 (show Kd.FK k36 _ _ (⟨(⟨(rd_T36 x6_1 x9_2).f0.f0, (rd_T36 x6_1 x9_2).f0.f1⟩ : S24), (rd_T36 x6_1 x9_2).f1⟩ : S36) [.int .i64 ((rd_T36 x6_1 x9_2).f0.f0), .slice A359_1 ((rd_T36 x6_1 x9_2).f0.f1).length c359_1, .int .i64 ((rd_T36 x6_1 x9_2).f1)] from (k36_mkF _ _ (⟨(⟨(rd_T36 x6_1 x9_2).f0.f0, (rd_T36 x6_1 x9_2).f0.f1⟩ : S24), (rd_T36 x6_1 x9_2).f1⟩ : S36) (Kd.V_reads' (Kd.V_mono (ok' := (fun k_ => (P0_ k_ ∨ w.heap.size ≤ k_) ∧ some k_ ≠ (.slice Ao10 x8_2.length co10 : Value).ownBlock ∧ some k_ ≠ (v357 : Value).ownBlock)) (HL359_1.out) (fun k_ hk => ⟨hk.1.1, ⟨hk.1.2, hk.2⟩⟩))).2.1 (Kd.V_F (Kd.V_mono (ok' := (fun k_ => (P0_ k_ ∨ w.heap.size ≤ k_) ∧ some k_ ≠ (.slice Ao10 x8_2.length co10 : Value).ownBlock ∧ some k_ ≠ (v357 : Value).ownBlock)) (HL359_1.out) (fun k_ hk => ⟨hk.1.1, ⟨hk.1.2, hk.2⟩⟩))))) (Reps.none _ _)))
              intro v361 w55 ho56 hb hg_ hnew_
              have HS0_ := (hb.cell (World.block_lt_of_cell? _ _ (hHeld.1))).trans (hHeld.1)
              have HS1_ := (hb.cell (World.block_lt_of_cell? _ _ (hHeld.2.1))).trans (hHeld.2.1)
              have HS2_ := (hb.cell (World.block_lt_of_cell? _ _ (hHeld.2.2))).trans (hHeld.2.2)
              clear hg_ hnew_
              (first | rw [← Ny360.out] at ho56 | (simp only [Int.reduceToNat] at ho56; rw [← Ny360.out] at ho56))
              have n0_ := Aside0.mk (Kd.V_elder' (by exact vU HO_6.out) (Kd.N_base ho56) hb)
              have n1_ := Aside0.mk (Kd.N_elder' (by exact nU HO_8.out) (Kd.N_base ho56) hb)
              have n2_ := Aside0.mk (Kd.V_elder' (by exact vU HO355.out) (Kd.N_base ho56) hb)
              have n3_ := Aside0.mk (Kd.V_elder' (by exact vU HL359_1.out) (Kd.N_base ho56) hb)
              have n4_ := Aside0.mk (Kd.V_elder' (by exact vU HO370.out) (Kd.N_base ho56) hb)
              have n5_ := Aside0.mk (Kd.N_elder' (by exact nU HO358.out) (Kd.N_base ho56) hb)
              have n6_ := Aside0.mk (Kd.N_lower ho56 (below_size (by exact wU HB.out)))
              have n7_ := Aside0.mk (below_step (by exact wU HB.out) hb)
              clear HO_6 HO_8 HO355 HL359_1 HO370 HO358 HB
              have HO_6 := n0_
              have HO_8 := n1_
              have HO355 := n2_
              have HL359_1 := n3_
              have HO370 := n4_
              have HO358 := n5_
              have HO362 := n6_
              have HB := n7_
              clear n0_ n1_ n2_ n3_ n4_ n5_ n6_ n7_ hb ho56
              refine hK.out _ _ ⟨HS0_, HS1_, HS2_⟩ (fun hHeld => ?_)
              clear hK K
              refine norm_ (a' := ?_) ?_ ?_
              rotate_left
              · show Act.put _ (some 58) _ = _
                simp only [pq19]
                rfl
              exact norm_ (by simp only [putAll, Act.put, List.setIfInBounds_toArray, List.set_cons_zero, List.set_cons_succ]) (hCont (v349, v357, v361) _ ⟨hHeld, (by exact vU (Kd.V_mono HL359_1.out (fun _ hk => ⟨hk.1.1.1, ⟨hk.1.2, ⟨hk.2, hk.1.1.2⟩⟩⟩))), (by exact vU (Kd.V_mono HO355.out (fun _ hk => ⟨hk.1.1, ⟨hk.1.2, hk.2⟩⟩))), (by exact nU HO358.out), (by exact nU (Kd.N_mono HO362.out (fun _ hk => ⟨hk.1, ⟨hk.2.2, hk.2.1⟩⟩))), (by exact vU (Kd.V_mono HO370.out (fun _ hk => ⟨hk.1.1, ⟨hk.1.2, hk.2⟩⟩))), (by exact vU (Kd.V_mono HO_6.out (fun _ hk => ⟨hk.1.1.1, ⟨hk.1.2, ⟨hk.2, hk.1.1.2⟩⟩⟩))), (by exact nU (Kd.N_mono HO_8.out (fun _ hk => ⟨hk.1.1, ⟨hk.1.2, hk.2⟩⟩))), (by exact wU HB.out)⟩)
            skip
            refine Kd.N_lit_step k36 _ 36 ?hg (N' := 58) ?hd (xs := ([(⟨(⟨(rd_T36 x6_1 x9_2).f0.f0, (rd_T36 x6_1 x9_2).f0.f1⟩ : S24), (rd_T36 x6_1 x9_2).f1⟩ : S36)] : List (S36))) (inner := [.int .i64 ((rd_T36 x6_1 x9_2).f0.f0), .slice A359_1 ((rd_T36 x6_1 x9_2).f0.f1).length c359_1, .int .i64 ((rd_T36 x6_1 x9_2).f1)]) (ok := (fun k_ => (P0_ k_ ∨ w.heap.size ≤ k_) ∧ some k_ ≠ (.slice Ao10 x8_2.length co10 : Value).ownBlock ∧ some k_ ≠ (v349 : Value).ownBlock)) (okp := (fun k_ => (P0_ k_ ∨ w.heap.size ≤ k_) ∧ some k_ ≠ (.slice Ao10 x8_2.length co10 : Value).ownBlock ∧ some k_ ≠ (v349 : Value).ownBlock)) ?hr ?hp (fun _ hk => hk) ((show ∀ k_, w52.heap.size ≤ k_ → (fun k_ => (P0_ k_ ∨ w.heap.size ≤ k_) ∧ some k_ ≠ (.slice Ao10 x8_2.length co10 : Value).ownBlock ∧ some k_ ≠ (v349 : Value).ownBlock) k_ from fun k_ hk => ⟨(.inr (Nat.le_trans (below_size (by exact wU HB.out)) hk)), Kd.fresh' (Kd.N_lt (by exact nU HO_8.out)) k_ hk, Kd.fresh' (Kd.N_lt (by exact nU HO350.out)) k_ hk⟩) _ (Nat.le_refl _)) (Below.refl _ _) (Nat.le_refl _) (by simp) ?_; (case hd => rfl); (case hg => rfl); (case hr => first | (go_simp; done) | (go_simp; rfl)); (case hp => exact (Reps.c3 (show Kd.FK k36 _ _ (⟨(⟨(rd_T36 x6_1 x9_2).f0.f0, (rd_T36 x6_1 x9_2).f0.f1⟩ : S24), (rd_T36 x6_1 x9_2).f1⟩ : S36) [.int .i64 ((rd_T36 x6_1 x9_2).f0.f0), .slice A359_1 ((rd_T36 x6_1 x9_2).f0.f1).length c359_1, .int .i64 ((rd_T36 x6_1 x9_2).f1)] from (k36_mkF _ _ (⟨(⟨(rd_T36 x6_1 x9_2).f0.f0, (rd_T36 x6_1 x9_2).f0.f1⟩ : S24), (rd_T36 x6_1 x9_2).f1⟩ : S36) (Kd.V_reads' (Kd.V_mono (ok' := (fun k_ => (P0_ k_ ∨ w.heap.size ≤ k_) ∧ some k_ ≠ (.slice Ao10 x8_2.length co10 : Value).ownBlock ∧ some k_ ≠ (v349 : Value).ownBlock)) (HL359_1.out) (fun k_ hk => ⟨hk.1.1, ⟨hk.1.2, hk.2⟩⟩))).2.1 (Kd.V_F (Kd.V_mono (ok' := (fun k_ => (P0_ k_ ∨ w.heap.size ≤ k_) ∧ some k_ ≠ (.slice Ao10 x8_2.length co10 : Value).ownBlock ∧ some k_ ≠ (v349 : Value).ownBlock)) (HL359_1.out) (fun k_ hk => ⟨hk.1.1, ⟨hk.1.2, hk.2⟩⟩))))) (Reps.none _ _)))
            intro v361 w54 ho55 hb hg_ hnew_
            have HS0_ := (hb.cell (World.block_lt_of_cell? _ _ (hHeld.1))).trans (hHeld.1)
            have HS1_ := (hb.cell (World.block_lt_of_cell? _ _ (hHeld.2.1))).trans (hHeld.2.1)
            have HS2_ := (hb.cell (World.block_lt_of_cell? _ _ (hHeld.2.2))).trans (hHeld.2.2)
            clear hg_ hnew_
            (first | rw [← Ny360.out] at ho55 | (simp only [Int.reduceToNat] at ho55; rw [← Ny360.out] at ho55))
            have n0_ := Aside0.mk (Kd.V_elder' (by exact vU HO_6.out) (Kd.N_base ho55) hb)
            have n1_ := Aside0.mk (Kd.N_elder' (by exact nU HO_8.out) (Kd.N_base ho55) hb)
            have n2_ := Aside0.mk (Kd.V_elder' (by exact vU HO355.out) (Kd.N_base ho55) hb)
            have n3_ := Aside0.mk (Kd.V_elder' (by exact vU HL359_1.out) (Kd.N_base ho55) hb)
            have n4_ := Aside0.mk (Kd.V_elder' (by exact vU HO370.out) (Kd.N_base ho55) hb)
            have n5_ := Aside0.mk (Kd.N_elder' (by exact nU HO350.out) (Kd.N_base ho55) hb)
            have n6_ := Aside0.mk (Kd.N_lower ho55 (below_size (by exact wU HB.out)))
            have n7_ := Aside0.mk (Kd.C_below (by repeat (first | (with_reducible exact HR359_1.out) | (with_reducible refine Kd.C_alloc ?_ _) | (with_reducible refine Kd.C_drewN ?_ _) | (with_reducible refine Kd.C_drew ?_) | exact HR359_1.out)) hb)
            have n8_ := Aside0.mk (below_step (by exact wU HB.out) hb)
            clear HO_6 HO_8 HO355 HL359_1 HO370 HO350 HR359_1 HB
            have HO_6 := n0_
            have HO_8 := n1_
            have HO355 := n2_
            have HL359_1 := n3_
            have HO370 := n4_
            have HO350 := n5_
            have HO362 := n6_
            have HR359_1 := n7_
            have HB := n8_
            clear n0_ n1_ n2_ n3_ n4_ n5_ n6_ n7_ n8_ hb ho55
            refine hK.out _ _ ⟨HS0_, HS1_, HS2_⟩ (fun hHeld => ?_)
            clear hK K
            refine norm_ (a' := ?_) ?_ ?_
            rotate_left
            · show Act.put _ (some 58) _ = _
              simp only [pq19]
              rfl
            refine one_ (i := 4) (N := some 53) #[Y19,Y19,Y19,Y19,Y19,Y19,Y19,Y19,Y19,Y19,N19,Y19,Y19,Y19,N19,N19] rfl rfl (one_of HT_.out (by kernel_rfl)) (by decide) (fun K hK => ?_)
            refine Kd.N_append_rows_step k36 (w0 := w) w.heap.size (by rfl) (.tmp 49) (.tmp 52) 28 36 (.agg #[(.int .i64 0), (.slice none 0 0), (.int .i64 0)]) 40 rfl Tryd.underlying28 info36 rfl (by decide) (by omega) v349 y348 y351 _ _ _ (fun k_ => (P0_ k_ ∨ w.heap.size ≤ k_) ∧ some k_ ≠ (v361 : Value).ownBlock) (fun k_ => ((fun k_ => (P0_ k_ ∨ w.heap.size ≤ k_) ∧ some k_ ≠ (v361 : Value).ownBlock)) k_ ∧ some k_ ≠ (v349 : Value).ownBlock) rfl rfl ?aO ?aR (fun _ hk => hk) ?aF ?aB ?aS ?aL ?_
            (case aR => exact (by skip; exact Kd.V_F (Kd.V_mono (ok' := (fun k_ => ((fun k_ => (P0_ k_ ∨ w.heap.size ≤ k_) ∧ some k_ ≠ (v361 : Value).ownBlock)) k_ ∧ some k_ ≠ (v349 : Value).ownBlock)) (HO355.out) (fun k_ hk => ⟨⟨hk.1.1, hk.2⟩, hk.1.2⟩))))
            (case aB => exact (by exact wU HB.out))
            (case aF => exact (fun k_ hk => ⟨(.inr (Nat.le_trans (below_size (by exact wU HB.out)) hk)), Kd.fresh' (Kd.N_lt (by exact nU HO362.out)) k_ hk⟩))
            (case aO => exact (by exact nU (Kd.N_mono HO350.out (fun _ hk => ⟨hk.1.1, hk.2⟩))))
            (case aS => exact (below_size (by exact wU HB.out)))
            (case aL => have := LMc41.out; omega)
            intro v357 w56 ho hb hg hat
            have HS0_ := cgz hg (hHeld.1) (by show some (Addr.add _ _).block ≠ _; rw [add_block]; have h_ := V_ok HO_6.out (by decide) (vpos ‹_› ‹_›); first | exact h_.2 | exact h_.1.2 | exact h_.1.1.2 | exact h_.2.1 | exact h_.2.2)
            have HS1_ := cgz hg (hHeld.2.1) (by show some (Addr.add _ _).block ≠ _; rw [add_block]; have h_ := V_ok HO_6.out (by decide) (vpos ‹_› ‹_›); first | exact h_.2 | exact h_.1.2 | exact h_.1.1.2 | exact h_.2.1 | exact h_.2.2)
            have HS2_ := cgz hg (hHeld.2.2) (by show some (Addr.add _ _).block ≠ _; rw [add_block]; have h_ := V_ok HO_6.out (by decide) (vpos ‹_› ‹_›); first | exact h_.2 | exact h_.1.2 | exact h_.1.1.2 | exact h_.2.1 | exact h_.2.2)
            rw [← Ny356.out] at ho
            have n0_ := Aside0.mk (Kd.V_afterv (ok := (fun k_ => (P0_ k_ ∨ w.heap.size ≤ k_) ∧ some k_ ≠ (.slice Ao10 x8_2.length co10 : Value).ownBlock ∧ some k_ ≠ (v361 : Value).ownBlock)) (by exact vU (Kd.V_mono HO_6.out (fun _ hk => ⟨⟨hk.1.1.1, ⟨hk.1.1.2, hk.2⟩⟩, hk.1.2⟩))) hg hat)
            have n1_ := Aside0.mk (Kd.N_afterv (ok := (fun k_ => (P0_ k_ ∨ w.heap.size ≤ k_) ∧ some k_ ≠ (v361 : Value).ownBlock)) (by exact nU (Kd.N_mono HO_8.out (fun _ hk => ⟨⟨hk.1.1, hk.2⟩, hk.1.2⟩))) hg hat)
            have n2_ := Aside0.mk (Kd.V_afterv (ok := (fun k_ => (P0_ k_ ∨ w.heap.size ≤ k_) ∧ some k_ ≠ (v361 : Value).ownBlock)) (by exact vU (Kd.V_mono HO355.out (fun _ hk => ⟨⟨hk.1.1, hk.2⟩, hk.1.2⟩))) hg hat)
            have n3_ := Aside0.mk (Kd.V_afterv (ok := (fun k_ => (P0_ k_ ∨ w.heap.size ≤ k_) ∧ some k_ ≠ (.slice Ao10 x8_2.length co10 : Value).ownBlock ∧ some k_ ≠ (v361 : Value).ownBlock)) (by exact vU (Kd.V_mono HL359_1.out (fun _ hk => ⟨⟨hk.1.1.1, ⟨hk.1.1.2, hk.2⟩⟩, hk.1.2⟩))) hg hat)
            have n4_ := Aside0.mk (Kd.V_afterv (ok := (fun k_ => (P0_ k_ ∨ w.heap.size ≤ k_) ∧ some k_ ≠ (v361 : Value).ownBlock)) (by exact vU (Kd.V_mono HO370.out (fun _ hk => ⟨⟨hk.1.1, hk.2⟩, hk.1.2⟩))) hg hat)
            have n5_ := Aside0.mk (Kd.N_afterv (ok := (fun k_ => (P0_ k_ ∨ w.heap.size ≤ k_) ∧ some k_ ≠ (.slice Ao10 x8_2.length co10 : Value).ownBlock)) (by exact nU (Kd.N_mono HO362.out (fun _ hk => ⟨⟨hk.1, hk.2.1⟩, hk.2.2⟩))) hg hat)
            have n6_ := Aside0.mk (hb)
            have n7_ := Aside0.mk (ho)
            clear HO_6 HO_8 HO355 HL359_1 HO370 HO362 HB HO350
            have HO_6 := n0_
            have HO_8 := n1_
            have HO355 := n2_
            have HL359_1 := n3_
            have HO370 := n4_
            have HO362 := n5_
            have HB := n6_
            have HO358 := n7_
            clear n0_ n1_ n2_ n3_ n4_ n5_ n6_ n7_ ho hb hg hat
            refine hK.out _ _ ⟨HS0_, HS1_, HS2_⟩ (fun hHeld => ?_)
            clear hK K
            refine norm_ (a' := ?_) ?_ ?_
            rotate_left
            · show Act.put _ (some 53) _ = _
              simp only [pq19]
              rfl
            exact norm_ (by simp only [putAll, Act.put, List.setIfInBounds_toArray, List.set_cons_zero, List.set_cons_succ]) (hCont (v349, v357, v361) _ ⟨hHeld, (by exact vU (Kd.V_mono HL359_1.out (fun _ hk => ⟨hk.1.1, ⟨hk.2, ⟨hk.1.2.2, hk.1.2.1⟩⟩⟩))), (by exact vU (Kd.V_mono HO355.out (fun _ hk => ⟨hk.1.1, ⟨hk.2, hk.1.2⟩⟩))), (by exact nU HO358.out), (by exact nU (Kd.N_mono HO362.out (fun _ hk => ⟨hk.1.1, ⟨hk.2, hk.1.2⟩⟩))), (by exact vU (Kd.V_mono HO370.out (fun _ hk => ⟨hk.1.1, ⟨hk.2, hk.1.2⟩⟩))), (by exact vU (Kd.V_mono HO_6.out (fun _ hk => ⟨hk.1.1, ⟨hk.2, ⟨hk.1.2.2, hk.1.2.1⟩⟩⟩))), (by exact nU (Kd.N_mono HO_8.out (fun _ hk => ⟨hk.1.1, ⟨hk.2, hk.1.2⟩⟩))), (by exact wU HB.out)⟩)
          rintro ⟨v349, v357, v361⟩ w57 ⟨hS_, h0_, h1_, h2_, h3_, h4_, h5_, h6_, h7_⟩
          have n0_ : Aside0 (Kd.V (Kd.int .i64) 3 w57 w.heap.size (fun k_ => (P0_ k_ ∨ w.heap.size ≤ k_) ∧ some k_ ≠ (v357 : Value).ownBlock ∧ some k_ ≠ (v361 : Value).ownBlock ∧ some k_ ≠ (.slice Ao10 x8_2.length co10 : Value).ownBlock) (.slice A359_1 ((rd_T36 x6_1 x9_2).f0.f1).length c359_1) ((rd_T36 x6_1 x9_2).f0.f1)) := ⟨h0_⟩
          have n1_ : Aside0 (Kd.V k36 36 w57 w.heap.size (fun k_ => (P0_ k_ ∨ w.heap.size ≤ k_) ∧ some k_ ≠ (v357 : Value).ownBlock ∧ some k_ ≠ (v361 : Value).ownBlock) (.slice Ao10 y351.length co10) y351) := ⟨h1_⟩
          have n2_ : Aside0 (Kd.N k36 36 w57 w.heap.size (fun k_ => (P0_ k_ ∨ w.heap.size ≤ k_) ∧ some k_ ≠ (v361 : Value).ownBlock) v357 y356) := ⟨h2_⟩
          have n3_ : Aside0 (Kd.N k36 36 w57 w.heap.size (fun k_ => (P0_ k_ ∨ w.heap.size ≤ k_) ∧ some k_ ≠ (v357 : Value).ownBlock ∧ some k_ ≠ (.slice Ao10 x8_2.length co10 : Value).ownBlock) v361 y360) := ⟨h3_⟩
          have n4_ : Aside0 (Kd.V k36 36 w57 w.heap.size (fun k_ => (P0_ k_ ∨ w.heap.size ≤ k_) ∧ some k_ ≠ (v357 : Value).ownBlock ∧ some k_ ≠ (v361 : Value).ownBlock) (.slice A51 y366.length c51) y366) := ⟨h4_⟩
          have n5_ : Aside0 (Kd.V k36 36 w57 w.heap.size (fun k_ => (P0_ k_ ∨ w.heap.size ≤ k_) ∧ some k_ ≠ (v357 : Value).ownBlock ∧ some k_ ≠ (v361 : Value).ownBlock ∧ some k_ ≠ (.slice Ao10 x8_2.length co10 : Value).ownBlock) (.slice (some ad359) x6_1.length co9) x6_1) := ⟨h5_⟩
          have n6_ : Aside0 (Kd.N k36 36 w57 w.heap.size (fun k_ => (P0_ k_ ∨ w.heap.size ≤ k_) ∧ some k_ ≠ (v357 : Value).ownBlock ∧ some k_ ≠ (v361 : Value).ownBlock) (.slice Ao10 x8_2.length co10) x8_2) := ⟨h6_⟩
          have n7_ : Aside0 (Below w.heap.size w w57) := ⟨h7_⟩
          clear HO_6 HO_8 HB h0_ h1_ h2_ h3_ h4_ h5_ h6_ h7_
          have HL359_1 := n0_
          have HO355 := n1_
          have HO358 := n2_
          have HO362 := n3_
          have HO370 := n4_
          have HO_6 := n5_
          have HO_8 := n6_
          have HB := n7_
          clear n0_ n1_ n2_ n3_ n4_ n5_ n6_ n7_
          have hHeld : w57.cell? (ad359.add ((x9_2).toNat * 3)) = some (.int .i64 ((rd_T36 x6_1 x9_2).f0.f0)) ∧ w57.cell? ⟨(ad359.add ((x9_2).toNat * 3)).block, (ad359.add ((x9_2).toNat * 3)).off + 1, none⟩ = some (.slice A359_1 ((rd_T36 x6_1 x9_2).f0.f1).length c359_1) ∧ w57.cell? ⟨(ad359.add ((x9_2).toNat * 3)).block, (ad359.add ((x9_2).toNat * 3)).off + 2, none⟩ = some (.int .i64 ((rd_T36 x6_1 x9_2).f1)) := hS_
          obtain ⟨Ao59, co59, eo59⟩ := Kd.N_slice HO362.out
          (first | subst eo59 | (injection eo59 with f1_ f2_ f3_; have f4_ := f1_.symm; have f5_ := f3_.symm; clear f1_ f2_ f3_; subst f4_; subst f5_))
          refine norm_ (a' := ?_) ?_ ?_
          rotate_left
          · simp only [putAll, Act.put, List.setIfInBounds_toArray, List.set_cons_zero, List.set_cons_succ]
            rfl
          refine one_ (i := 10) (N := some 59) #[Y19,Y19,Y19,Y19,Y19,Y19,Y19,Y19,Y19,Y19,Y19,Y19,Y19,Y19,N19,N19] rfl rfl (one_of HT_.out (by kernel_rfl)) (by decide) (fun K hK => ?_)
          refine Kd.N_append_rows_step k36 (w0 := w) w.heap.size (by rfl) (.tmp 53) (.tmp 58) 28 36 (.agg #[(.int .i64 0), (.slice none 0 0), (.int .i64 0)]) 40 rfl Tryd.underlying28 info36 rfl (by decide) (by omega) v357 y356 y360 _ _ _ (fun k_ => (P0_ k_ ∨ w.heap.size ≤ k_)) (fun k_ => ((fun k_ => (P0_ k_ ∨ w.heap.size ≤ k_))) k_ ∧ some k_ ≠ (v357 : Value).ownBlock) rfl rfl ?aO ?aR (fun _ hk => hk) ?aF ?aB ?aS ?aL ?_
          (case aR => exact (by skip; exact Kd.N_F (Kd.N_mono (ok' := (fun k_ => ((fun k_ => (P0_ k_ ∨ w.heap.size ≤ k_))) k_ ∧ some k_ ≠ (v357 : Value).ownBlock)) (HO362.out) (fun k_ hk => ⟨hk.1, hk.2.1⟩))))
          (case aB => exact (by exact wU HB.out))
          (case aF => exact (fun k_ hk => (.inr (Nat.le_trans (below_size (by exact wU HB.out)) hk))))
          (case aO => exact (by exact nU (Kd.N_mono HO358.out (fun _ hk => hk.1))))
          (case aS => exact (below_size (by exact wU HB.out)))
          (case aL => have := LMc44.out; omega)
          intro v364 w58 ho hb hg hat
          have HS0_ := cgz hg (hHeld.1) (by show some (Addr.add _ _).block ≠ _; rw [add_block]; have h_ := V_ok HO_6.out (by decide) (vpos ‹_› ‹_›); first | exact h_.2 | exact h_.1.2 | exact h_.1.1.2 | exact h_.2.1 | exact h_.2.2)
          have HS1_ := cgz hg (hHeld.2.1) (by show some (Addr.add _ _).block ≠ _; rw [add_block]; have h_ := V_ok HO_6.out (by decide) (vpos ‹_› ‹_›); first | exact h_.2 | exact h_.1.2 | exact h_.1.1.2 | exact h_.2.1 | exact h_.2.2)
          have HS2_ := cgz hg (hHeld.2.2) (by show some (Addr.add _ _).block ≠ _; rw [add_block]; have h_ := V_ok HO_6.out (by decide) (vpos ‹_› ‹_›); first | exact h_.2 | exact h_.1.2 | exact h_.1.1.2 | exact h_.2.1 | exact h_.2.2)
          rw [← Ny363.out] at ho
          have n0_ := Aside0.mk (Kd.V_afterv (ok := (fun k_ => (P0_ k_ ∨ w.heap.size ≤ k_) ∧ some k_ ≠ (.slice Ao10 x8_2.length co10 : Value).ownBlock ∧ some k_ ≠ (.slice Ao59 y360.length co59 : Value).ownBlock)) (by exact vU (Kd.V_mono HO_6.out (fun _ hk => ⟨⟨hk.1, ⟨hk.2.2.2, hk.2.2.1⟩⟩, hk.2.1⟩))) hg hat)
          have n1_ := Aside0.mk (Kd.N_afterv (ok := (fun k_ => (P0_ k_ ∨ w.heap.size ≤ k_) ∧ some k_ ≠ (.slice Ao59 y360.length co59 : Value).ownBlock)) (by exact nU (Kd.N_mono HO_8.out (fun _ hk => ⟨⟨hk.1, hk.2.2⟩, hk.2.1⟩))) hg hat)
          have n2_ := Aside0.mk (Kd.V_afterv (ok := (fun k_ => (P0_ k_ ∨ w.heap.size ≤ k_) ∧ some k_ ≠ (.slice Ao59 y360.length co59 : Value).ownBlock)) (by exact vU (Kd.V_mono HO355.out (fun _ hk => ⟨⟨hk.1, hk.2.2⟩, hk.2.1⟩))) hg hat)
          have n3_ := Aside0.mk (Kd.V_afterv (ok := (fun k_ => (P0_ k_ ∨ w.heap.size ≤ k_) ∧ some k_ ≠ (.slice Ao10 x8_2.length co10 : Value).ownBlock ∧ some k_ ≠ (.slice Ao59 y360.length co59 : Value).ownBlock)) (by exact vU (Kd.V_mono HL359_1.out (fun _ hk => ⟨⟨hk.1, ⟨hk.2.2.2, hk.2.2.1⟩⟩, hk.2.1⟩))) hg hat)
          have n4_ := Aside0.mk (Kd.V_afterv (ok := (fun k_ => (P0_ k_ ∨ w.heap.size ≤ k_) ∧ some k_ ≠ (.slice Ao59 y360.length co59 : Value).ownBlock)) (by exact vU (Kd.V_mono HO370.out (fun _ hk => ⟨⟨hk.1, hk.2.2⟩, hk.2.1⟩))) hg hat)
          have n5_ := Aside0.mk (Kd.N_afterv (ok := (fun k_ => (P0_ k_ ∨ w.heap.size ≤ k_) ∧ some k_ ≠ (.slice Ao10 x8_2.length co10 : Value).ownBlock)) (by exact nU (Kd.N_mono HO362.out (fun _ hk => ⟨⟨hk.1, hk.2.2⟩, hk.2.1⟩))) hg hat)
          have n6_ := Aside0.mk (hb)
          have n7_ := Aside0.mk (ho)
          clear HO_6 HO_8 HO355 HL359_1 HO370 HO362 HB HO358
          have HO_6 := n0_
          have HO_8 := n1_
          have HO355 := n2_
          have HL359_1 := n3_
          have HO370 := n4_
          have HO362 := n5_
          have HB := n6_
          have HO365 := n7_
          clear n0_ n1_ n2_ n3_ n4_ n5_ n6_ n7_ ho hb hg hat
          refine hK.out _ _ ⟨HS0_, HS1_, HS2_⟩ (fun hHeld => ?_)
          clear hK K
          refine norm_ (a' := ?_) ?_ ?_
          rotate_left
          · show Act.put _ (some 59) _ = _
            simp only [pq19]
            rfl
          refine one_ (i := 14) (N := some 63) #[Y19,Y19,Y19,Y19,Y19,Y19,Y19,Y19,Y19,Y19,Y19,Y19,Y19,Y19,Y19,N19] rfl rfl (one_of HT_.out (by kernel_rfl)) (by decide) (fun K hK => ?_)
          refine Kd.N_append_rows_step k36 (w0 := w) w.heap.size (by rfl) (.tmp 59) (.tmp 62) 28 36 (.agg #[(.int .i64 0), (.slice none 0 0), (.int .i64 0)]) 40 rfl Tryd.underlying28 info36 rfl (by decide) (by omega) v364 y363 y366 _ _ _ (fun k_ => (P0_ k_ ∨ w.heap.size ≤ k_)) (fun k_ => ((fun k_ => (P0_ k_ ∨ w.heap.size ≤ k_))) k_ ∧ some k_ ≠ (v364 : Value).ownBlock) rfl rfl ?aO ?aR (fun _ hk => hk) ?aF ?aB ?aS ?aL ?_
          (case aR => exact (by skip; exact Kd.V_F (Kd.V_mono (ok' := (fun k_ => ((fun k_ => (P0_ k_ ∨ w.heap.size ≤ k_))) k_ ∧ some k_ ≠ (v364 : Value).ownBlock)) (HO370.out) (fun k_ hk => ⟨hk.1.1, hk.2⟩))))
          (case aB => exact (by exact wU HB.out))
          (case aF => exact (fun k_ hk => (.inr (Nat.le_trans (below_size (by exact wU HB.out)) hk))))
          (case aO => exact (by exact nU HO365.out))
          (case aS => exact (below_size (by exact wU HB.out)))
          (case aL => have := LMc47.out; omega)
          intro v372 w60 ho hb hg hat
          have HS0_ := cgz hg (hHeld.1) (by show some (Addr.add _ _).block ≠ _; rw [add_block]; have h_ := V_ok HO_6.out (by decide) (vpos ‹_› ‹_›); first | exact h_.2 | exact h_.1.2 | exact h_.1.1.2 | exact h_.2.1 | exact h_.2.2)
          have HS1_ := cgz hg (hHeld.2.1) (by show some (Addr.add _ _).block ≠ _; rw [add_block]; have h_ := V_ok HO_6.out (by decide) (vpos ‹_› ‹_›); first | exact h_.2 | exact h_.1.2 | exact h_.1.1.2 | exact h_.2.1 | exact h_.2.2)
          have HS2_ := cgz hg (hHeld.2.2) (by show some (Addr.add _ _).block ≠ _; rw [add_block]; have h_ := V_ok HO_6.out (by decide) (vpos ‹_› ‹_›); first | exact h_.2 | exact h_.1.2 | exact h_.1.1.2 | exact h_.2.1 | exact h_.2.2)
          rw [← Ny371.out] at ho
          have n0_ := Aside0.mk (Kd.V_afterv (ok := (fun k_ => (P0_ k_ ∨ w.heap.size ≤ k_) ∧ some k_ ≠ (.slice Ao10 x8_2.length co10 : Value).ownBlock ∧ some k_ ≠ (.slice Ao59 y360.length co59 : Value).ownBlock)) (by exact vU HO_6.out) hg hat)
          have n1_ := Aside0.mk (Kd.N_afterv (ok := (fun k_ => (P0_ k_ ∨ w.heap.size ≤ k_) ∧ some k_ ≠ (.slice Ao59 y360.length co59 : Value).ownBlock)) (by exact nU HO_8.out) hg hat)
          have n2_ := Aside0.mk (Kd.V_afterv (ok := (fun k_ => (P0_ k_ ∨ w.heap.size ≤ k_) ∧ some k_ ≠ (.slice Ao59 y360.length co59 : Value).ownBlock)) (by exact vU HO355.out) hg hat)
          have n3_ := Aside0.mk (Kd.V_afterv (ok := (fun k_ => (P0_ k_ ∨ w.heap.size ≤ k_) ∧ some k_ ≠ (.slice Ao10 x8_2.length co10 : Value).ownBlock ∧ some k_ ≠ (.slice Ao59 y360.length co59 : Value).ownBlock)) (by exact vU HL359_1.out) hg hat)
          have n4_ := Aside0.mk (Kd.V_afterv (ok := (fun k_ => (P0_ k_ ∨ w.heap.size ≤ k_) ∧ some k_ ≠ (.slice Ao59 y360.length co59 : Value).ownBlock)) (by exact vU HO370.out) hg hat)
          have n5_ := Aside0.mk (Kd.N_afterv (ok := (fun k_ => (P0_ k_ ∨ w.heap.size ≤ k_) ∧ some k_ ≠ (.slice Ao10 x8_2.length co10 : Value).ownBlock)) (by exact nU HO362.out) hg hat)
          have n6_ := Aside0.mk (hb)
          have n7_ := Aside0.mk (ho)
          clear HO_6 HO_8 HO355 HL359_1 HO370 HO362 HB HO365
          have HO_6 := n0_
          have HO_8 := n1_
          have HO355 := n2_
          have HL359_1 := n3_
          have HO370 := n4_
          have HO362 := n5_
          have HB := n6_
          have HO373 := n7_
          clear n0_ n1_ n2_ n3_ n4_ n5_ n6_ n7_ ho hb hg hat
          refine hK.out _ _ ⟨HS0_, HS1_, HS2_⟩ (fun hHeld => ?_)
          clear hK K
          refine norm_ (a' := ?_) ?_ ?_
          rotate_left
          · show Act.put _ (some 63) _ = _
            simp only [pq19]
            rfl
          refine pure_ (i := 15) (N := some 8) (v := ?_) (a' := ?_) #[Y19,Y19,Y19,Y19,Y19,Y19,Y19,Y19,Y19,Y19,Y19,Y19,Y19,Y19,Y19,Y19] rfl rfl (any_of HT_.out (by kernel_rfl)) (fun _ _ _ h => h) (Or.inl ⟨by rfl, ?_⟩) ?_ ?_; rotate_left; (intro w'; go_simp; with_reducible rfl); rotate_left; (simp only [pq19]; rfl)
          refine done_ (done_of HT_.out (by kernel_rfl)) ?_
          try go_wp2
          go_roundg k3
          case measure => have := HK1.out; have := HK2.out; have := HK3.out; omega
          case rel => exact ⟨(y371), (wrap64 (x9_2 + 1)), (by first | rfl | (simp; done) | (simp [*]; done)), H', ⟨by have := HK1.out; have := HK2.out; have := HK3.out; omega⟩, ⟨by exact vU (Kd.V_mono HO_6.out (fun _ hk => ⟨hk.1.1, hk.2⟩))⟩, ⟨by exact nU HO373.out⟩, ⟨by exact wU HB.out⟩⟩
        rw [if_pos c11] at H
        have c11b0 : decide (0 < x10_3) = true := decide_eq_true c11
        clear c11
        by_cases c12 : 0 ≤ x9_2
        rotate_left
        · rw [if_neg c12] at H
          exact absurd H (by simp)
        rw [if_pos c12] at H
        have c12b0 : decide (0 ≤ x9_2) = true := decide_eq_true c12
        clear c12
        by_cases c13 : x9_2 < (x6_1.length : Int)
        rotate_left
        · rw [if_neg c13] at H
          exact absurd H (by simp)
        rw [if_pos c13] at H
        have c13b0 : decide (x9_2 < (x6_1.length : Int)) = true := decide_eq_true c13
        clear c13
        obtain ⟨ji14, hji14⟩ : ∃ j_ : Int, (wrap64 (x10_3 - 1)) = j_ := ⟨_, rfl⟩
        replace H : (if 0 ≤ (ji14) then (if (ji14) < (x8_2.length : Int) then (if ((rd_T36 x6_1 x9_2).f1) < ((rd_T36 x8_2 (ji14)).f1) then (interlocutorref10_Best.l2 k3 a1 x6_1 x8_2 x9_2 ji14) else ((some (([] : List (S36)) : List (S36))).bind fun y322 => (if 0 ≤ x10_3 then (if x10_3 ≤ (x8_2.length : Int) then ((some (x8_2.take (x10_3 : Int).toNat : List (S36))).bind fun y325 => (if y322.length + y325.length < 3518437208883 then ((some (y322 ++ y325 : List (S36))).bind fun y330 => ((some (([(⟨(⟨(rd_T36 x6_1 x9_2).f0.f0, (rd_T36 x6_1 x9_2).f0.f1⟩ : S24), (rd_T36 x6_1 x9_2).f1⟩ : S36)] : List (S36)) : List (S36))).bind fun y334 => (if y330.length + y334.length < 3518437208883 then ((some (y330 ++ y334 : List (S36))).bind fun y337 => ((some (x8_2.drop (x10_3 : Int).toNat : List (S36))).bind fun y340 => (if y337.length + y340.length < 3518437208883 then (interlocutorref10_Best.l1 k3 a1 x6_1 (y337 ++ y340) (wrap64 (x9_2 + 1))) else (none)))) else (none)))) else (none))) else (none)) else (none)))) else (none)) else (none)) = some (r1, r2) := by first | (rw [hji14] at H; exact H) | (simp only [hji14] at H ⊢; exact H)
        have hji14w : (IntKind.i64.wrap (x10_3 - 1)) = ji14 := (i64_w _).trans hji14
        by_cases c15 : 0 ≤ (ji14)
        rotate_left
        · rw [if_neg c15] at H
          exact absurd H (by simp)
        rw [if_pos c15] at H
        have c15b0 : decide (0 ≤ (ji14)) = true := decide_eq_true c15
        clear c15
        by_cases c16 : (ji14) < (x8_2.length : Int)
        rotate_left
        · rw [if_neg c16] at H
          exact absurd H (by simp)
        rw [if_pos c16] at H
        have c16b0 : decide ((ji14) < (x8_2.length : Int)) = true := decide_eq_true c16
        clear c16
        by_cases c17 : ((rd_T36 x6_1 x9_2).f1) < ((rd_T36 x8_2 (ji14)).f1)
        · rw [if_pos c17] at H
          have c17b0 : decide (((rd_T36 x6_1 x9_2).f1) < ((rd_T36 x8_2 (ji14)).f1)) = true := decide_eq_true c17
          clear c17
          have H' := Aside0.mk H
          clear H
          try go_wp2
          have n0_ := Aside0.mk (Kd.V_drew HO_6.out)
          have n1_ := Aside0.mk (Kd.N_drew HO_8.out)
          have n2_ := Aside0.mk (below_drew1 HB.out)
          clear HO_6 HO_8 HB
          have HO_6 := n0_
          have HO_8 := n1_
          have HB := n2_
          clear n0_ n1_ n2_
          have p320 : 0 ≤ (x9_2 : Int) := of_decide_eq_true (by first | (with_reducible assumption) | assumption)
          have q320 : x9_2 < (x6_1.length : Int) := of_decide_eq_true (by first | (with_reducible assumption) | assumption)
          obtain ⟨ad320, A320_1, c320_1, e320, hx320_0, hx320_1, hx320_2, hl320_1, hi320_1⟩ := at_T36 (Kd.V_reads' HO_6.out).2.2 x9_2 p320 q320
          cases e320
          obtain ⟨ce320, hce320, hMe320, hcc320⟩ := Kd.V_get HO_6.out z36 x9_2 p320 (by first | exact q320 | exact of_decide_eq_true (by first | (with_reducible assumption) | assumption) | (have e_ := (Kd.V_reads' HO_6.out).1; omega))
          obtain ⟨ua320_1, uc320_1, rfl, ul320_1, ge320_1⟩ := k36_openF hMe320
          have hv320_1 := hcc320 1 _ rfl
          rw [add_field _ _ 1 (by omega)] at hv320_1
          replace hv320_1 := Option.some.inj (hv320_1.symm.trans hx320_1)
          injection hv320_1 with hva_ hvn_ hvc_
          rw [hva_] at ge320_1
          rw [hvc_] at ul320_1
          have HL320_1 := Aside0.mk (show Kd.V (Kd.int .i64) 3 _ w.heap.size _ _ ((rd_T36 x6_1 x9_2).f0.f1) from Kd.V_mk ul320_1 ge320_1)
          clear hva_ hvn_ hvc_ ge320_1 ul320_1 hcc320 hce320
          have HR320_1 := Aside0.mk hi320_1
          have HC320_1 := Aside0.mk hl320_1
          clear hi320_1 hl320_1
          replace p320 := eq_true p320
          replace q320 := eq_true q320
          have p321 : 0 ≤ ((ji14) : Int) := of_decide_eq_true (by first | (with_reducible assumption) | assumption)
          have q321 : (ji14) < (x8_2.length : Int) := of_decide_eq_true (by first | (with_reducible assumption) | assumption)
          obtain ⟨ad321, A321_1, c321_1, e321, hx321_0, hx321_1, hx321_2, hl321_1, hi321_1⟩ := at_T36 (Kd.N_reads' HO_8.out).2.2 (ji14) p321 q321
          cases e321
          obtain ⟨ce321, hce321, hMe321, hcc321⟩ := Kd.N_get HO_8.out z36 (ji14) p321 (by first | exact q321 | exact of_decide_eq_true (by first | (with_reducible assumption) | assumption) | (have e_ := (Kd.N_reads' HO_8.out).1; omega))
          obtain ⟨ua321_1, uc321_1, rfl, ul321_1, ge321_1⟩ := k36_openF hMe321
          have hv321_1 := hcc321 1 _ rfl
          rw [add_field _ _ 1 (by omega)] at hv321_1
          replace hv321_1 := Option.some.inj (hv321_1.symm.trans hx321_1)
          injection hv321_1 with hva_ hvn_ hvc_
          rw [hva_] at ge321_1
          rw [hvc_] at ul321_1
          have HL321_1 := Aside0.mk (show Kd.V (Kd.int .i64) 3 _ w.heap.size _ _ ((rd_T36 x8_2 (ji14)).f0.f1) from Kd.V_mk ul321_1 ge321_1)
          clear hva_ hvn_ hvc_ ge321_1 ul321_1 hcc321 hce321
          have HR321_1 := Aside0.mk hi321_1
          have HC321_1 := Aside0.mk hl321_1
          clear hi321_1 hl321_1
          replace p321 := eq_true p321
          replace q321 := eq_true q321
          refine start_ (n := 16) (S := fun w' => w'.cell? (ad320.add ((x9_2).toNat * 3)) = some (.int .i64 ((rd_T36 x6_1 x9_2).f0.f0)) ∧ w'.cell? ⟨(ad320.add ((x9_2).toNat * 3)).block, (ad320.add ((x9_2).toNat * 3)).off + 1, none⟩ = some (.slice A320_1 ((rd_T36 x6_1 x9_2).f0.f1).length c320_1) ∧ w'.cell? ⟨(ad320.add ((x9_2).toNat * 3)).block, (ad320.add ((x9_2).toNat * 3)).off + 2, none⟩ = some (.int .i64 ((rd_T36 x6_1 x9_2).f1)) ∧ w'.cell? (ad321.add (((ji14)).toNat * 3)) = some (.int .i64 ((rd_T36 x8_2 (ji14)).f0.f0)) ∧ w'.cell? ⟨(ad321.add (((ji14)).toNat * 3)).block, (ad321.add (((ji14)).toNat * 3)).off + 1, none⟩ = some (.slice A321_1 ((rd_T36 x8_2 (ji14)).f0.f1).length c321_1) ∧ w'.cell? ⟨(ad321.add (((ji14)).toNat * 3)).block, (ad321.add (((ji14)).toNat * 3)).off + 2, none⟩ = some (.int .i64 ((rd_T36 x8_2 (ji14)).f1))) (ds := []) #[N19,N19,N19,N19,N19,N19,N19,N19,N19,N19,N19,N19,N19,N19,N19,N19] (by kernel_rfl) rfl rfl ⟨hx320_0, hx320_1, hx320_2, hx321_0, hx321_1, hx321_2⟩ (fun hHeld => ?_); refine with_tabW interlocutorref10_Best.tab11 interlocutorref10_Best.bits11 (fun HT_ HW_ => ?_)
          generalize wr.drew = w18 at HO_6 HO_8 HB HL320_1 HL321_1 HR320_1 HR321_1 hx320_0 hx320_1 hx320_2 hx321_0 hx321_1 hx321_2 hHeld ⊢
          refine pure_ (i := 0) (N := some 31) (v := ?_) (a' := ?_) #[Y19,N19,N19,N19,N19,N19,N19,N19,N19,N19,N19,N19,N19,N19,N19,N19] rfl rfl (any_of HT_.out (by kernel_rfl)) (fun _ _ _ h => h) (Or.inl ⟨by rfl, ?_⟩) ?_ ?_; rotate_left; (intro w'; go_simp; with_reducible rfl); rotate_left; (simp only [pq19]; rfl)
          refine pure_ (i := 1) (N := some 32) (v := ?_) (a' := ?_) #[Y19,Y19,N19,N19,N19,N19,N19,N19,N19,N19,N19,N19,N19,N19,N19,N19] rfl rfl (any_of HT_.out (by kernel_rfl)) (fun _ _ _ h => h) (Or.inl ⟨by rfl, ?_⟩) ?_ ?_; rotate_left; (intro w'; go_simp; with_reducible rfl); rotate_left; (simp only [pq19]; rfl)
          refine pure_ (i := 2) (N := some 33) (v := ?_) (a' := ?_) #[Y19,Y19,Y19,N19,N19,N19,N19,N19,N19,N19,N19,N19,N19,N19,N19,N19] rfl rfl (any_of HT_.out (by kernel_rfl)) (fun _ _ _ h => h) (Or.inl ⟨by rfl, ?_⟩) ?_ ?_; rotate_left; (intro w'; go_simp; with_reducible rfl); rotate_left; (simp only [pq19]; rfl)
          refine pure_ (i := 3) (N := some 34) (v := ?_) (a' := ?_) #[Y19,Y19,Y19,Y19,N19,N19,N19,N19,N19,N19,N19,N19,N19,N19,N19,N19] rfl rfl (any_of HT_.out (by kernel_rfl)) (fun _ _ _ h => h) (Or.inl ⟨by rfl, ?_⟩) ?_ ?_; rotate_left; (intro w'; go_simp; with_reducible rfl); rotate_left; (simp only [pq19]; rfl)
          refine pure_ (i := 4) (N := some 35) (v := ?_) (a' := ?_) #[Y19,Y19,Y19,Y19,Y19,N19,N19,N19,N19,N19,N19,N19,N19,N19,N19,N19] rfl rfl (any_of HT_.out (by kernel_rfl)) (fun _ _ _ h => h) (Or.inl ⟨by rfl, ?_⟩) ?_ ?_; rotate_left; (intro w'; go_simp; with_reducible rfl); rotate_left; (simp only [pq19]; rfl)
          refine pure_ (i := 5) (N := some 36) (v := ?_) (a' := ?_) #[Y19,Y19,Y19,Y19,Y19,Y19,N19,N19,N19,N19,N19,N19,N19,N19,N19,N19] rfl rfl (any_of HT_.out (by kernel_rfl)) (fun _ _ _ h => h) (Or.inl ⟨by rfl, ?_⟩) ?_ ?_; rotate_left; (intro w'; go_simp; with_reducible rfl); rotate_left; (simp only [pq19]; rfl)
          refine pure_ (i := 6) (N := some 37) (v := ?_) (a' := ?_) #[Y19,Y19,Y19,Y19,Y19,Y19,Y19,N19,N19,N19,N19,N19,N19,N19,N19,N19] rfl rfl (any_of HT_.out (by kernel_rfl)) (fun _ _ _ h => h) (Or.inl ⟨by rfl, ?_⟩) ?_ ?_; rotate_left; (intro w'; go_simp; with_reducible rfl); rotate_left; (simp only [pq19]; rfl)
          refine pure_ (i := 8) (N := some 39) (v := ?_) (a' := ?_) #[Y19,Y19,Y19,Y19,Y19,Y19,Y19,N19,Y19,N19,N19,N19,N19,N19,N19,N19] rfl rfl (any_of HT_.out (by kernel_rfl)) (fun _ _ _ h => h) (Or.inl ⟨by rfl, ?_⟩) ?_ ?_; rotate_left; (intro w'; go_simp; with_reducible rfl); rotate_left; (simp only [pq19]; rfl)
          refine pure_ (i := 9) (N := some 40) (v := ?_) (a' := ?_) #[Y19,Y19,Y19,Y19,Y19,Y19,Y19,N19,Y19,Y19,N19,N19,N19,N19,N19,N19] rfl rfl (any_of HT_.out (by kernel_rfl)) (fun _ _ _ h => h) (Or.inl ⟨by rfl, ?_⟩) ?_ ?_; rotate_left; (intro w'; go_simp; with_reducible rfl); rotate_left; (simp only [pq19]; rfl)
          refine pure_ (i := 10) (N := some 41) (v := ?_) (a' := ?_) #[Y19,Y19,Y19,Y19,Y19,Y19,Y19,N19,Y19,Y19,Y19,N19,N19,N19,N19,N19] rfl rfl (any_of HT_.out (by kernel_rfl)) (fun _ _ _ h => h) (Or.inl ⟨by rfl, ?_⟩) ?_ ?_; rotate_left; (intro w'; go_simp; with_reducible rfl); rotate_left; (simp only [pq19]; rfl)
          refine pure_ (i := 11) (N := some 42) (v := ?_) (a' := ?_) #[Y19,Y19,Y19,Y19,Y19,Y19,Y19,N19,Y19,Y19,Y19,Y19,N19,N19,N19,N19] rfl rfl (any_of HT_.out (by kernel_rfl)) (fun _ _ _ h => h) (Or.inl ⟨by rfl, ?_⟩) ?_ ?_; rotate_left; (intro w'; go_simp; with_reducible rfl); rotate_left; (simp only [pq19]; rfl)
          refine pure_ (i := 12) (N := some 43) (v := ?_) (a' := ?_) #[Y19,Y19,Y19,Y19,Y19,Y19,Y19,N19,Y19,Y19,Y19,Y19,Y19,N19,N19,N19] rfl rfl (any_of HT_.out (by kernel_rfl)) (fun _ _ _ h => h) (Or.inl ⟨by rfl, ?_⟩) ?_ ?_; rotate_left; (intro w'; go_simp; with_reducible rfl); rotate_left; (simp only [pq19]; rfl)
          refine take_ (i := 7) (N := some 38) (v := ?_) (a' := ?_) #[Y19,Y19,Y19,Y19,Y19,Y19,Y19,Y19,Y19,Y19,Y19,Y19,Y19,N19,N19,N19] rfl rfl (take_ofW HT_.out HW_.out (by kernel_rfl)) (fun _ _ _ h => h) (Or.inl ⟨by rfl, ?_⟩) hHeld ?_ ?_
          rotate_left
          · rintro w' ⟨s0, s1, s2, s3, s4, s5⟩
            go_simp
            with_reducible rfl
          rotate_left
          · simp only [pq19]
            rfl
          refine take_ (i := 13) (N := some 44) (v := ?_) (a' := ?_) #[Y19,Y19,Y19,Y19,Y19,Y19,Y19,Y19,Y19,Y19,Y19,Y19,Y19,Y19,N19,N19] rfl rfl (take_ofW HT_.out HW_.out (by kernel_rfl)) (fun _ _ _ h => h) (Or.inl ⟨by rfl, ?_⟩) hHeld ?_ ?_
          rotate_left
          · rintro w' ⟨s0, s1, s2, s3, s4, s5⟩
            go_simp
            with_reducible rfl
          rotate_left
          · simp only [pq19]
            rfl
          refine pure_ (i := 14) (N := some 45) (v := ?_) (a' := ?_) #[Y19,Y19,Y19,Y19,Y19,Y19,Y19,Y19,Y19,Y19,Y19,Y19,Y19,Y19,Y19,N19] rfl rfl (any_of HT_.out (by kernel_rfl)) (fun _ _ _ h => h) (Or.inl ⟨by rfl, ?_⟩) ?_ ?_; rotate_left; (intro w'; go_simp; with_reducible rfl); rotate_left; (simp only [pq19]; rfl)
          refine pure_ (i := 15) (N := some 46) (v := ?_) (a' := ?_) #[Y19,Y19,Y19,Y19,Y19,Y19,Y19,Y19,Y19,Y19,Y19,Y19,Y19,Y19,Y19,Y19] rfl rfl (any_of HT_.out (by kernel_rfl)) (fun _ _ _ h => h) (Or.inl ⟨by rfl, ?_⟩) ?_ ?_; rotate_left; (intro w'; go_simp; with_reducible rfl); rotate_left; (simp only [pq19]; rfl)
          refine done_ (done_of HT_.out (by kernel_rfl)) ?_
          try go_wp2
          go_roundg k3
          case measure => have := HK1.out; have := HK2.out; have := HK3.out; omega
          case rel => exact ⟨(ji14), (by first | rfl | (simp; done) | (simp only [← hji14] <;> (first | rfl | simp)) | (simp [*]; done)), H', ⟨by have := HK1.out; have := HK2.out; have := HK3.out; omega⟩, ⟨by exact vU HO_6.out⟩, ⟨by exact nU HO_8.out⟩, ⟨by exact wU HB.out⟩⟩
        rw [if_neg c17] at H
        have c17b0 : decide (((rd_T36 x6_1 x9_2).f1) < ((rd_T36 x8_2 (ji14)).f1)) = false := decide_eq_false c17
        clear c17
        obtain ⟨y322, hy322⟩ : ∃ y_ : List (S36), y_ = (([] : List (S36))) := ⟨_, rfl⟩
        replace H : (if 0 ≤ x10_3 then (if x10_3 ≤ (x8_2.length : Int) then ((some (x8_2.take (x10_3 : Int).toNat : List (S36))).bind fun y325 => (if y322.length + y325.length < 3518437208883 then ((some (y322 ++ y325 : List (S36))).bind fun y330 => ((some (([(⟨(⟨(rd_T36 x6_1 x9_2).f0.f0, (rd_T36 x6_1 x9_2).f0.f1⟩ : S24), (rd_T36 x6_1 x9_2).f1⟩ : S36)] : List (S36)) : List (S36))).bind fun y334 => (if y330.length + y334.length < 3518437208883 then ((some (y330 ++ y334 : List (S36))).bind fun y337 => ((some (x8_2.drop (x10_3 : Int).toNat : List (S36))).bind fun y340 => (if y337.length + y340.length < 3518437208883 then (interlocutorref10_Best.l1 k3 a1 x6_1 (y337 ++ y340) (wrap64 (x9_2 + 1))) else (none)))) else (none)))) else (none))) else (none)) else (none)) = some (r1, r2) := by first | (rw [hy322]; with_reducible exact H) | (have H2_ := (Option.bind_some _ _).symm.trans H; rw [hy322]; with_reducible exact H2_) | (have H2_ := (Option.bind_some _ _).symm.trans H; with_reducible exact H2_) | with_reducible exact H | (rw [hy322]; exact H) | exact H
        have Ny322 := Aside0.mk hy322
        clear hy322
        by_cases c19 : 0 ≤ x10_3
        rotate_left
        · rw [if_neg c19] at H
          exact absurd H (by simp)
        rw [if_pos c19] at H
        have c19b0 := eq_true c19
        have c19b1 : decide (0 ≤ x10_3) = true := decide_eq_true c19
        clear c19
        by_cases c20 : x10_3 ≤ (x8_2.length : Int)
        rotate_left
        · rw [if_neg c20] at H
          exact absurd H (by simp)
        rw [if_pos c20] at H
        have c20b0 := eq_true c20
        have c20b1 : decide (x10_3 ≤ (x8_2.length : Int)) = true := decide_eq_true c20
        clear c20
        obtain ⟨y325, hy325⟩ : ∃ y_ : List (S36), y_ = (x8_2.take (x10_3 : Int).toNat) := ⟨_, rfl⟩
        replace H : (if y322.length + y325.length < 3518437208883 then ((some (y322 ++ y325 : List (S36))).bind fun y330 => ((some (([(⟨(⟨(rd_T36 x6_1 x9_2).f0.f0, (rd_T36 x6_1 x9_2).f0.f1⟩ : S24), (rd_T36 x6_1 x9_2).f1⟩ : S36)] : List (S36)) : List (S36))).bind fun y334 => (if y330.length + y334.length < 3518437208883 then ((some (y330 ++ y334 : List (S36))).bind fun y337 => ((some (x8_2.drop (x10_3 : Int).toNat : List (S36))).bind fun y340 => (if y337.length + y340.length < 3518437208883 then (interlocutorref10_Best.l1 k3 a1 x6_1 (y337 ++ y340) (wrap64 (x9_2 + 1))) else (none)))) else (none)))) else (none)) = some (r1, r2) := by first | (rw [hy325]; with_reducible exact H) | (have H2_ := (Option.bind_some _ _).symm.trans H; rw [hy325]; with_reducible exact H2_) | (have H2_ := (Option.bind_some _ _).symm.trans H; with_reducible exact H2_) | with_reducible exact H | (rw [hy325]; exact H) | exact H
        have Ny325 := Aside0.mk hy325
        clear hy325
        by_cases c21 : y322.length + y325.length < 3518437208883
        rotate_left
        · rw [if_neg c21] at H
          exact absurd H (by simp)
        rw [if_pos c21] at H
        have LMc21 := Aside0.mk c21
        clear c21
        obtain ⟨y330, hy330⟩ : ∃ y_ : List (S36), y_ = (y322 ++ y325) := ⟨_, rfl⟩
        replace H : ((some (([(⟨(⟨(rd_T36 x6_1 x9_2).f0.f0, (rd_T36 x6_1 x9_2).f0.f1⟩ : S24), (rd_T36 x6_1 x9_2).f1⟩ : S36)] : List (S36)) : List (S36))).bind fun y334 => (if y330.length + y334.length < 3518437208883 then ((some (y330 ++ y334 : List (S36))).bind fun y337 => ((some (x8_2.drop (x10_3 : Int).toNat : List (S36))).bind fun y340 => (if y337.length + y340.length < 3518437208883 then (interlocutorref10_Best.l1 k3 a1 x6_1 (y337 ++ y340) (wrap64 (x9_2 + 1))) else (none)))) else (none))) = some (r1, r2) := by first | (rw [hy330]; with_reducible exact H) | (have H2_ := (Option.bind_some _ _).symm.trans H; rw [hy330]; with_reducible exact H2_) | (have H2_ := (Option.bind_some _ _).symm.trans H; with_reducible exact H2_) | with_reducible exact H | (rw [hy330]; exact H) | exact H
        have Ny330 := Aside0.mk hy330
        clear hy330
        obtain ⟨y334, hy334⟩ : ∃ y_ : List (S36), y_ = (([(⟨(⟨(rd_T36 x6_1 x9_2).f0.f0, (rd_T36 x6_1 x9_2).f0.f1⟩ : S24), (rd_T36 x6_1 x9_2).f1⟩ : S36)] : List (S36))) := ⟨_, rfl⟩
        replace H : (if y330.length + y334.length < 3518437208883 then ((some (y330 ++ y334 : List (S36))).bind fun y337 => ((some (x8_2.drop (x10_3 : Int).toNat : List (S36))).bind fun y340 => (if y337.length + y340.length < 3518437208883 then (interlocutorref10_Best.l1 k3 a1 x6_1 (y337 ++ y340) (wrap64 (x9_2 + 1))) else (none)))) else (none)) = some (r1, r2) := by first | (rw [hy334]; with_reducible exact H) | (have H2_ := (Option.bind_some _ _).symm.trans H; rw [hy334]; with_reducible exact H2_) | (have H2_ := (Option.bind_some _ _).symm.trans H; with_reducible exact H2_) | with_reducible exact H | (rw [hy334]; exact H) | exact H
        have Ny334 := Aside0.mk hy334
        clear hy334
        by_cases c22 : y330.length + y334.length < 3518437208883
        rotate_left
        · rw [if_neg c22] at H
          exact absurd H (by simp)
        rw [if_pos c22] at H
        have LMc22 := Aside0.mk c22
        clear c22
        obtain ⟨y337, hy337⟩ : ∃ y_ : List (S36), y_ = (y330 ++ y334) := ⟨_, rfl⟩
        replace H : ((some (x8_2.drop (x10_3 : Int).toNat : List (S36))).bind fun y340 => (if y337.length + y340.length < 3518437208883 then (interlocutorref10_Best.l1 k3 a1 x6_1 (y337 ++ y340) (wrap64 (x9_2 + 1))) else (none))) = some (r1, r2) := by first | (rw [hy337]; with_reducible exact H) | (have H2_ := (Option.bind_some _ _).symm.trans H; rw [hy337]; with_reducible exact H2_) | (have H2_ := (Option.bind_some _ _).symm.trans H; with_reducible exact H2_) | with_reducible exact H | (rw [hy337]; exact H) | exact H
        have Ny337 := Aside0.mk hy337
        clear hy337
        have c23b0 := eq_true (of_decide_eq_true (by first | (with_reducible assumption) | assumption) : 0 ≤ x10_3)
        have c24b0 := eq_true (of_decide_eq_true (by first | (with_reducible assumption) | assumption) : x10_3 ≤ (x8_2.length : Int))
        obtain ⟨y340, hy340⟩ : ∃ y_ : List (S36), y_ = (x8_2.drop (x10_3 : Int).toNat) := ⟨_, rfl⟩
        replace H : (if y337.length + y340.length < 3518437208883 then (interlocutorref10_Best.l1 k3 a1 x6_1 (y337 ++ y340) (wrap64 (x9_2 + 1))) else (none)) = some (r1, r2) := by first | (rw [hy340]; with_reducible exact H) | (have H2_ := (Option.bind_some _ _).symm.trans H; rw [hy340]; with_reducible exact H2_) | (have H2_ := (Option.bind_some _ _).symm.trans H; with_reducible exact H2_) | with_reducible exact H | (rw [hy340]; exact H) | exact H
        have Ny340 := Aside0.mk hy340
        clear hy340
        by_cases c25 : y337.length + y340.length < 3518437208883
        rotate_left
        · rw [if_neg c25] at H
          exact absurd H (by simp)
        rw [if_pos c25] at H
        have LMc25 := Aside0.mk c25
        clear c25
        obtain ⟨y345, hy345⟩ : ∃ y_ : List (S36), y_ = (y337 ++ y340) := ⟨_, rfl⟩
        replace H : (interlocutorref10_Best.l1 k3 a1 x6_1 y345 (wrap64 (x9_2 + 1))) = some (r1, r2) := by first | (rw [hy345]; with_reducible exact H) | (have H2_ := (Option.bind_some _ _).symm.trans H; rw [hy345]; with_reducible exact H2_) | (have H2_ := (Option.bind_some _ _).symm.trans H; with_reducible exact H2_) | with_reducible exact H | (rw [hy345]; exact H) | exact H
        have Ny345 := Aside0.mk hy345
        clear hy345
        have H' := Aside0.mk H
        clear H
        try go_wp2
        have n0_ := Aside0.mk (Kd.V_drew HO_6.out)
        have n1_ := Aside0.mk (Kd.N_drew HO_8.out)
        have n2_ := Aside0.mk (below_drew1 HB.out)
        clear HO_6 HO_8 HB
        have HO_6 := n0_
        have HO_8 := n1_
        have HB := n2_
        clear n0_ n1_ n2_
        have p320 : 0 ≤ (x9_2 : Int) := of_decide_eq_true (by first | (with_reducible assumption) | assumption)
        have q320 : x9_2 < (x6_1.length : Int) := of_decide_eq_true (by first | (with_reducible assumption) | assumption)
        obtain ⟨ad320, A320_1, c320_1, e320, hx320_0, hx320_1, hx320_2, hl320_1, hi320_1⟩ := at_T36 (Kd.V_reads' HO_6.out).2.2 x9_2 p320 q320
        cases e320
        obtain ⟨ce320, hce320, hMe320, hcc320⟩ := Kd.V_get HO_6.out z36 x9_2 p320 (by first | exact q320 | exact of_decide_eq_true (by first | (with_reducible assumption) | assumption) | (have e_ := (Kd.V_reads' HO_6.out).1; omega))
        obtain ⟨ua320_1, uc320_1, rfl, ul320_1, ge320_1⟩ := k36_openF hMe320
        have hv320_1 := hcc320 1 _ rfl
        rw [add_field _ _ 1 (by omega)] at hv320_1
        replace hv320_1 := Option.some.inj (hv320_1.symm.trans hx320_1)
        injection hv320_1 with hva_ hvn_ hvc_
        rw [hva_] at ge320_1
        rw [hvc_] at ul320_1
        have HL320_1 := Aside0.mk (show Kd.V (Kd.int .i64) 3 _ w.heap.size _ _ ((rd_T36 x6_1 x9_2).f0.f1) from Kd.V_mk ul320_1 ge320_1)
        clear hva_ hvn_ hvc_ ge320_1 ul320_1 hcc320 hce320
        have HR320_1 := Aside0.mk hi320_1
        have HC320_1 := Aside0.mk hl320_1
        clear hi320_1 hl320_1
        replace p320 := eq_true p320
        replace q320 := eq_true q320
        have p321 : 0 ≤ ((ji14) : Int) := of_decide_eq_true (by first | (with_reducible assumption) | assumption)
        have q321 : (ji14) < (x8_2.length : Int) := of_decide_eq_true (by first | (with_reducible assumption) | assumption)
        obtain ⟨ad321, A321_1, c321_1, e321, hx321_0, hx321_1, hx321_2, hl321_1, hi321_1⟩ := at_T36 (Kd.N_reads' HO_8.out).2.2 (ji14) p321 q321
        cases e321
        obtain ⟨ce321, hce321, hMe321, hcc321⟩ := Kd.N_get HO_8.out z36 (ji14) p321 (by first | exact q321 | exact of_decide_eq_true (by first | (with_reducible assumption) | assumption) | (have e_ := (Kd.N_reads' HO_8.out).1; omega))
        obtain ⟨ua321_1, uc321_1, rfl, ul321_1, ge321_1⟩ := k36_openF hMe321
        have hv321_1 := hcc321 1 _ rfl
        rw [add_field _ _ 1 (by omega)] at hv321_1
        replace hv321_1 := Option.some.inj (hv321_1.symm.trans hx321_1)
        injection hv321_1 with hva_ hvn_ hvc_
        rw [hva_] at ge321_1
        rw [hvc_] at ul321_1
        have HL321_1 := Aside0.mk (show Kd.V (Kd.int .i64) 3 _ w.heap.size _ _ ((rd_T36 x8_2 (ji14)).f0.f1) from Kd.V_mk ul321_1 ge321_1)
        clear hva_ hvn_ hvc_ ge321_1 ul321_1 hcc321 hce321
        have HR321_1 := Aside0.mk hi321_1
        have HC321_1 := Aside0.mk hl321_1
        clear hi321_1 hl321_1
        replace p321 := eq_true p321
        replace q321 := eq_true q321
        refine start_ (n := 16) (S := fun w' => w'.cell? (ad320.add ((x9_2).toNat * 3)) = some (.int .i64 ((rd_T36 x6_1 x9_2).f0.f0)) ∧ w'.cell? ⟨(ad320.add ((x9_2).toNat * 3)).block, (ad320.add ((x9_2).toNat * 3)).off + 1, none⟩ = some (.slice A320_1 ((rd_T36 x6_1 x9_2).f0.f1).length c320_1) ∧ w'.cell? ⟨(ad320.add ((x9_2).toNat * 3)).block, (ad320.add ((x9_2).toNat * 3)).off + 2, none⟩ = some (.int .i64 ((rd_T36 x6_1 x9_2).f1)) ∧ w'.cell? (ad321.add (((ji14)).toNat * 3)) = some (.int .i64 ((rd_T36 x8_2 (ji14)).f0.f0)) ∧ w'.cell? ⟨(ad321.add (((ji14)).toNat * 3)).block, (ad321.add (((ji14)).toNat * 3)).off + 1, none⟩ = some (.slice A321_1 ((rd_T36 x8_2 (ji14)).f0.f1).length c321_1) ∧ w'.cell? ⟨(ad321.add (((ji14)).toNat * 3)).block, (ad321.add (((ji14)).toNat * 3)).off + 2, none⟩ = some (.int .i64 ((rd_T36 x8_2 (ji14)).f1))) (ds := []) #[N19,N19,N19,N19,N19,N19,N19,N19,N19,N19,N19,N19,N19,N19,N19,N19] (by kernel_rfl) rfl rfl ⟨hx320_0, hx320_1, hx320_2, hx321_0, hx321_1, hx321_2⟩ (fun hHeld => ?_); refine with_tabW interlocutorref10_Best.tab11 interlocutorref10_Best.bits11 (fun HT_ HW_ => ?_)
        generalize wr.drew = w26 at HO_6 HO_8 HB HL320_1 HL321_1 HR320_1 HR321_1 hx320_0 hx320_1 hx320_2 hx321_0 hx321_1 hx321_2 hHeld ⊢
        refine pure_ (i := 0) (N := some 31) (v := ?_) (a' := ?_) #[Y19,N19,N19,N19,N19,N19,N19,N19,N19,N19,N19,N19,N19,N19,N19,N19] rfl rfl (any_of HT_.out (by kernel_rfl)) (fun _ _ _ h => h) (Or.inl ⟨by rfl, ?_⟩) ?_ ?_; rotate_left; (intro w'; go_simp; with_reducible rfl); rotate_left; (simp only [pq19]; rfl)
        refine pure_ (i := 1) (N := some 32) (v := ?_) (a' := ?_) #[Y19,Y19,N19,N19,N19,N19,N19,N19,N19,N19,N19,N19,N19,N19,N19,N19] rfl rfl (any_of HT_.out (by kernel_rfl)) (fun _ _ _ h => h) (Or.inl ⟨by rfl, ?_⟩) ?_ ?_; rotate_left; (intro w'; go_simp; with_reducible rfl); rotate_left; (simp only [pq19]; rfl)
        refine pure_ (i := 2) (N := some 33) (v := ?_) (a' := ?_) #[Y19,Y19,Y19,N19,N19,N19,N19,N19,N19,N19,N19,N19,N19,N19,N19,N19] rfl rfl (any_of HT_.out (by kernel_rfl)) (fun _ _ _ h => h) (Or.inl ⟨by rfl, ?_⟩) ?_ ?_; rotate_left; (intro w'; go_simp; with_reducible rfl); rotate_left; (simp only [pq19]; rfl)
        refine pure_ (i := 3) (N := some 34) (v := ?_) (a' := ?_) #[Y19,Y19,Y19,Y19,N19,N19,N19,N19,N19,N19,N19,N19,N19,N19,N19,N19] rfl rfl (any_of HT_.out (by kernel_rfl)) (fun _ _ _ h => h) (Or.inl ⟨by rfl, ?_⟩) ?_ ?_; rotate_left; (intro w'; go_simp; with_reducible rfl); rotate_left; (simp only [pq19]; rfl)
        refine pure_ (i := 4) (N := some 35) (v := ?_) (a' := ?_) #[Y19,Y19,Y19,Y19,Y19,N19,N19,N19,N19,N19,N19,N19,N19,N19,N19,N19] rfl rfl (any_of HT_.out (by kernel_rfl)) (fun _ _ _ h => h) (Or.inl ⟨by rfl, ?_⟩) ?_ ?_; rotate_left; (intro w'; go_simp; with_reducible rfl); rotate_left; (simp only [pq19]; rfl)
        refine pure_ (i := 5) (N := some 36) (v := ?_) (a' := ?_) #[Y19,Y19,Y19,Y19,Y19,Y19,N19,N19,N19,N19,N19,N19,N19,N19,N19,N19] rfl rfl (any_of HT_.out (by kernel_rfl)) (fun _ _ _ h => h) (Or.inl ⟨by rfl, ?_⟩) ?_ ?_; rotate_left; (intro w'; go_simp; with_reducible rfl); rotate_left; (simp only [pq19]; rfl)
        refine pure_ (i := 6) (N := some 37) (v := ?_) (a' := ?_) #[Y19,Y19,Y19,Y19,Y19,Y19,Y19,N19,N19,N19,N19,N19,N19,N19,N19,N19] rfl rfl (any_of HT_.out (by kernel_rfl)) (fun _ _ _ h => h) (Or.inl ⟨by rfl, ?_⟩) ?_ ?_; rotate_left; (intro w'; go_simp; with_reducible rfl); rotate_left; (simp only [pq19]; rfl)
        refine pure_ (i := 8) (N := some 39) (v := ?_) (a' := ?_) #[Y19,Y19,Y19,Y19,Y19,Y19,Y19,N19,Y19,N19,N19,N19,N19,N19,N19,N19] rfl rfl (any_of HT_.out (by kernel_rfl)) (fun _ _ _ h => h) (Or.inl ⟨by rfl, ?_⟩) ?_ ?_; rotate_left; (intro w'; go_simp; with_reducible rfl); rotate_left; (simp only [pq19]; rfl)
        refine pure_ (i := 9) (N := some 40) (v := ?_) (a' := ?_) #[Y19,Y19,Y19,Y19,Y19,Y19,Y19,N19,Y19,Y19,N19,N19,N19,N19,N19,N19] rfl rfl (any_of HT_.out (by kernel_rfl)) (fun _ _ _ h => h) (Or.inl ⟨by rfl, ?_⟩) ?_ ?_; rotate_left; (intro w'; go_simp; with_reducible rfl); rotate_left; (simp only [pq19]; rfl)
        refine pure_ (i := 10) (N := some 41) (v := ?_) (a' := ?_) #[Y19,Y19,Y19,Y19,Y19,Y19,Y19,N19,Y19,Y19,Y19,N19,N19,N19,N19,N19] rfl rfl (any_of HT_.out (by kernel_rfl)) (fun _ _ _ h => h) (Or.inl ⟨by rfl, ?_⟩) ?_ ?_; rotate_left; (intro w'; go_simp; with_reducible rfl); rotate_left; (simp only [pq19]; rfl)
        refine pure_ (i := 11) (N := some 42) (v := ?_) (a' := ?_) #[Y19,Y19,Y19,Y19,Y19,Y19,Y19,N19,Y19,Y19,Y19,Y19,N19,N19,N19,N19] rfl rfl (any_of HT_.out (by kernel_rfl)) (fun _ _ _ h => h) (Or.inl ⟨by rfl, ?_⟩) ?_ ?_; rotate_left; (intro w'; go_simp; with_reducible rfl); rotate_left; (simp only [pq19]; rfl)
        refine pure_ (i := 12) (N := some 43) (v := ?_) (a' := ?_) #[Y19,Y19,Y19,Y19,Y19,Y19,Y19,N19,Y19,Y19,Y19,Y19,Y19,N19,N19,N19] rfl rfl (any_of HT_.out (by kernel_rfl)) (fun _ _ _ h => h) (Or.inl ⟨by rfl, ?_⟩) ?_ ?_; rotate_left; (intro w'; go_simp; with_reducible rfl); rotate_left; (simp only [pq19]; rfl)
        refine take_ (i := 7) (N := some 38) (v := ?_) (a' := ?_) #[Y19,Y19,Y19,Y19,Y19,Y19,Y19,Y19,Y19,Y19,Y19,Y19,Y19,N19,N19,N19] rfl rfl (take_ofW HT_.out HW_.out (by kernel_rfl)) (fun _ _ _ h => h) (Or.inl ⟨by rfl, ?_⟩) hHeld ?_ ?_
        rotate_left
        · rintro w' ⟨s0, s1, s2, s3, s4, s5⟩
          go_simp
          with_reducible rfl
        rotate_left
        · simp only [pq19]
          rfl
        refine take_ (i := 13) (N := some 44) (v := ?_) (a' := ?_) #[Y19,Y19,Y19,Y19,Y19,Y19,Y19,Y19,Y19,Y19,Y19,Y19,Y19,Y19,N19,N19] rfl rfl (take_ofW HT_.out HW_.out (by kernel_rfl)) (fun _ _ _ h => h) (Or.inl ⟨by rfl, ?_⟩) hHeld ?_ ?_
        rotate_left
        · rintro w' ⟨s0, s1, s2, s3, s4, s5⟩
          go_simp
          with_reducible rfl
        rotate_left
        · simp only [pq19]
          rfl
        refine pure_ (i := 14) (N := some 45) (v := ?_) (a' := ?_) #[Y19,Y19,Y19,Y19,Y19,Y19,Y19,Y19,Y19,Y19,Y19,Y19,Y19,Y19,Y19,N19] rfl rfl (any_of HT_.out (by kernel_rfl)) (fun _ _ _ h => h) (Or.inl ⟨by rfl, ?_⟩) ?_ ?_; rotate_left; (intro w'; go_simp; with_reducible rfl); rotate_left; (simp only [pq19]; rfl)
        refine pure_ (i := 15) (N := some 46) (v := ?_) (a' := ?_) #[Y19,Y19,Y19,Y19,Y19,Y19,Y19,Y19,Y19,Y19,Y19,Y19,Y19,Y19,Y19,Y19] rfl rfl (any_of HT_.out (by kernel_rfl)) (fun _ _ _ h => h) (Or.inl ⟨by rfl, ?_⟩) ?_ ?_; rotate_left; (intro w'; go_simp; with_reducible rfl); rotate_left; (simp only [pq19]; rfl)
        refine done_ (done_of HT_.out (by kernel_rfl)) ?_
        try go_wp2
        have n0_ := Aside0.mk (Kd.V_drew HO_6.out)
        have n1_ := Aside0.mk (Kd.N_drew HO_8.out)
        have n2_ := Aside0.mk (Kd.V_drew HL320_1.out)
        have n3_ := Aside0.mk (Kd.V_drew HL321_1.out)
        have n4_ := Aside0.mk (Kd.C_drew HR320_1.out)
        have n5_ := Aside0.mk (Kd.C_drew HR321_1.out)
        have n6_ := Aside0.mk (below_drew1 HB.out)
        clear HO_6 HO_8 HL320_1 HL321_1 HR320_1 HR321_1 HB
        have HO_6 := n0_
        have HO_8 := n1_
        have HL320_1 := n2_
        have HL321_1 := n3_
        have HR320_1 := n4_
        have HR321_1 := n5_
        have HB := n6_
        clear n0_ n1_ n2_ n3_ n4_ n5_ n6_
        have q28 : (x10_3 : Int) ≤ ((x8_2.length : Int) : Int) := of_decide_eq_true (by first | (with_reducible assumption) | assumption)
        obtain ⟨i028, hi028, _, hsz28, _⟩ := info_parts info36
        have hroom28 : x8_2.length ≤ co10 := (Kd.N_reads' HO_8.out).2.1
        have hC28 : Kd.F k36 _ _ (some ad321) x8_2.length x8_2 := (Kd.V_at (base := w.heap.size) (Kd.N_V HO_8.out)).2.2
        have hcut28 := cut_to (P := Tryd.prog) 28 36 .i64 Tryd.underlying28 hi028 (some ad321) x8_2.length co10 x10_3 (of_decide_eq_true (by first | (with_reducible assumption) | assumption)) q28 hroom28
        have hr28 := Kd.F_take (m := (x10_3 : Int).toNat) hC28 (by omega)
        have hy28 : y325.length = (x10_3 : Int).toNat := (by rw [Ny325.out, List.length_take]; omega)
        rw [← Ny325.out] at hr28
        rw [← hy28] at hcut28
        have HO329 := Aside0.mk (show Kd.V k36 36 _ w.heap.size _ (.slice (some ad321) y325.length co10) y325 from Kd.V_mk (by omega) hr28)
        have HC329 := Aside0.mk (show y325.length ≤ co10 from by omega)
        clear hr28 hC28 hroom28 hi028 hsz28
        have KY28 := Aside0.mk hy28
        clear hy28
        replace q28 := eq_true q28
        have p333 : 0 ≤ (x9_2 : Int) := of_decide_eq_true (by first | (with_reducible assumption) | assumption)
        have q333 : x9_2 < (x6_1.length : Int) := of_decide_eq_true (by first | (with_reducible assumption) | assumption)
        obtain ⟨ad333, A333_1, c333_1, e333, hx333_0, hx333_1, hx333_2, hl333_1, hi333_1⟩ := at_T36 (Kd.V_reads' HO_6.out).2.2 x9_2 p333 q333
        obtain rfl : ad320 = ad333 := (by injection e333)
        obtain ⟨ce333, hce333, hMe333, hcc333⟩ := Kd.V_get HO_6.out z36 x9_2 p333 (by first | exact q333 | exact of_decide_eq_true (by first | (with_reducible assumption) | assumption) | (have e_ := (Kd.V_reads' HO_6.out).1; omega))
        obtain ⟨ua333_1, uc333_1, rfl, ul333_1, ge333_1⟩ := k36_openF hMe333
        have hv333_1 := hcc333 1 _ rfl
        rw [add_field _ _ 1 (by omega)] at hv333_1
        replace hv333_1 := Option.some.inj (hv333_1.symm.trans hx333_1)
        injection hv333_1 with hva_ hvn_ hvc_
        rw [hva_] at ge333_1
        rw [hvc_] at ul333_1
        have HL333_1 := Aside0.mk (show Kd.V (Kd.int .i64) 3 _ w.heap.size _ _ ((rd_T36 x6_1 x9_2).f0.f1) from Kd.V_mk ul333_1 ge333_1)
        clear hva_ hvn_ hvc_ ge333_1 ul333_1 hcc333 hce333
        have HR333_1 := Aside0.mk hi333_1
        have HC333_1 := Aside0.mk hl333_1
        clear hi333_1 hl333_1
        replace p333 := eq_true p333
        replace q333 := eq_true q333
        have q29 : (x10_3 : Int) ≤ ((x8_2.length : Int) : Int) := of_decide_eq_true (by first | (with_reducible assumption) | assumption)
        obtain ⟨i029, hi029, _, hsz29, _⟩ := info_parts info36
        have hroom29 : x8_2.length ≤ co10 := (Kd.N_reads' HO_8.out).2.1
        have hC29 : Kd.F k36 _ _ (some ad321) x8_2.length x8_2 := (Kd.V_at (base := w.heap.size) (Kd.N_V HO_8.out)).2.2
        have q029 : (0 : Int) ≤ (x10_3 : Int) := of_decide_eq_true (by first | (with_reducible assumption) | assumption)
        have hcut29 := cut_from (P := Tryd.prog) 28 36 .i64 Tryd.underlying28 hi029 3 hsz29 (some ad321) x8_2.length co10 x10_3 q029 q29
        have hr29 := Kd.F_cut (m := (x10_3 : Int).toNat) (c := co10) hC29 (by omega) hroom29
        obtain ⟨A29, hA29⟩ : ∃ A1, A1 = (if co10 = (x10_3 : Int).toNat then (some ad321) else ((some ad321) : Option Addr).map (·.add ((x10_3 : Int).toNat * 3))) := ⟨_, rfl⟩
        obtain ⟨c29, hc29⟩ : ∃ c1, c1 = co10 - (x10_3 : Int).toNat := ⟨_, rfl⟩
        have hy29 : y340.length = x8_2.length - (x10_3 : Int).toNat := (by rw [Ny340.out, List.length_drop] <;> omega)
        rw [show (x8_2).drop (x10_3 : Int).toNat = y340 from Ny340.out.symm] at hr29
        replace hr29 : Kd.F k36 _ _ A29 y340.length y340 := (by rw [hA29]; exact hr29)
        rw [← hy29, ← hA29, ← hc29] at hcut29
        have HO344 := Aside0.mk (show Kd.V k36 36 _ w.heap.size _ (.slice A29 y340.length c29) y340 from Kd.V_mk (by rw [hy29, hc29]; exact Nat.sub_le_sub_right hroom29 _) hr29)
        have HC344 := Aside0.mk (show y340.length ≤ c29 from by rw [hy29, hc29]; exact Nat.sub_le_sub_right hroom29 _)
        clear hr29 hC29 hroom29 hi029 hsz29 hc29
        have KY29 := Aside0.mk hy29
        have KA29 := Aside0.mk hA29
        clear hy29 hA29
        replace q29 := eq_true q29
        refine start_ (n := 16) (S := fun w' => w'.cell? (ad320.add ((x9_2).toNat * 3)) = some (.int .i64 ((rd_T36 x6_1 x9_2).f0.f0)) ∧ w'.cell? ⟨(ad320.add ((x9_2).toNat * 3)).block, (ad320.add ((x9_2).toNat * 3)).off + 1, none⟩ = some (.slice A333_1 ((rd_T36 x6_1 x9_2).f0.f1).length c333_1) ∧ w'.cell? ⟨(ad320.add ((x9_2).toNat * 3)).block, (ad320.add ((x9_2).toNat * 3)).off + 2, none⟩ = some (.int .i64 ((rd_T36 x6_1 x9_2).f1))) (ds := []) #[N19,N19,N19,N19,N19,N19,N19,N19,N19,N19,N19,N19,N19,N19,N19,N19] (by kernel_rfl) rfl rfl ⟨hx333_0, hx333_1, hx333_2⟩ (fun hHeld => ?_); refine with_tabW interlocutorref10_Best.tab13 interlocutorref10_Best.bits13 (fun HT_ HW_ => ?_)
        generalize w26.drew = w27 at HO_6 HO_8 HL320_1 HL321_1 HR320_1 HR321_1 HB HL333_1 HO329 HO344 HR333_1 hx333_0 hx333_1 hx333_2 hHeld ⊢
        refine pure_ (i := 1) (N := some 50) (v := ?_) (a' := ?_) #[N19,Y19,N19,N19,N19,N19,N19,N19,N19,N19,N19,N19,N19,N19,N19,N19] rfl rfl (any_of HT_.out (by kernel_rfl)) (fun _ _ _ h => h) (Or.inl ⟨by rfl, ?_⟩) ?_ ?_; rotate_left; (intro w'; go_simp; with_reducible rfl); rotate_left; (simp only [pq19]; rfl)
        refine pure_ (i := 2) (N := some 51) (v := ?_) (a' := ?_) #[N19,Y19,Y19,N19,N19,N19,N19,N19,N19,N19,N19,N19,N19,N19,N19,N19] rfl rfl (any_of HT_.out (by kernel_rfl)) (fun _ _ _ h => h) (Or.inl ⟨by rfl, ?_⟩) ?_ ?_; rotate_left; (intro w'; go_simp; with_reducible rfl); rotate_left; (simp only [pq19]; rfl)
        refine pure_ (i := 3) (N := some 52) (v := ?_) (a' := ?_) #[N19,Y19,Y19,Y19,N19,N19,N19,N19,N19,N19,N19,N19,N19,N19,N19,N19] rfl rfl (any_of HT_.out (by kernel_rfl)) (fun _ _ _ h => h) (Or.inl ⟨by rfl, ?_⟩) ?_ ?_; rotate_left; (intro w'; go_simp; with_reducible rfl); rotate_left; (simp only [pq19]; rfl)
        refine pure_ (i := 5) (N := some 54) (v := ?_) (a' := ?_) #[N19,Y19,Y19,Y19,N19,Y19,N19,N19,N19,N19,N19,N19,N19,N19,N19,N19] rfl rfl (any_of HT_.out (by kernel_rfl)) (fun _ _ _ h => h) (Or.inl ⟨by rfl, ?_⟩) ?_ ?_; rotate_left; (intro w'; go_simp; with_reducible rfl); rotate_left; (simp only [pq19]; rfl)
        refine pure_ (i := 6) (N := some 55) (v := ?_) (a' := ?_) #[N19,Y19,Y19,Y19,N19,Y19,Y19,N19,N19,N19,N19,N19,N19,N19,N19,N19] rfl rfl (any_of HT_.out (by kernel_rfl)) (fun _ _ _ h => h) (Or.inl ⟨by rfl, ?_⟩) ?_ ?_; rotate_left; (intro w'; go_simp; with_reducible rfl); rotate_left; (simp only [pq19]; rfl)
        refine pure_ (i := 7) (N := some 56) (v := ?_) (a' := ?_) #[N19,Y19,Y19,Y19,N19,Y19,Y19,Y19,N19,N19,N19,N19,N19,N19,N19,N19] rfl rfl (any_of HT_.out (by kernel_rfl)) (fun _ _ _ h => h) (Or.inl ⟨by rfl, ?_⟩) ?_ ?_; rotate_left; (intro w'; go_simp; with_reducible rfl); rotate_left; (simp only [pq19]; rfl)
        refine pure_ (i := 11) (N := some 60) (v := ?_) (a' := ?_) #[N19,Y19,Y19,Y19,N19,Y19,Y19,Y19,N19,N19,N19,Y19,N19,N19,N19,N19] rfl rfl (any_of HT_.out (by kernel_rfl)) (fun _ _ _ h => h) (Or.inl ⟨by rfl, ?_⟩) ?_ ?_; rotate_left; (intro w'; go_simp; with_reducible rfl); rotate_left; (simp only [pq19]; rfl)
        refine pure_ (i := 12) (N := some 61) (v := ?_) (a' := ?_) #[N19,Y19,Y19,Y19,N19,Y19,Y19,Y19,N19,N19,N19,Y19,Y19,N19,N19,N19] rfl rfl (any_of HT_.out (by kernel_rfl)) (fun _ _ _ h => h) (Or.inl ⟨by rfl, ?_⟩) ?_ ?_; rotate_left; (intro w'; go_simp; with_reducible rfl); rotate_left; (simp only [pq19]; rfl)
        refine pure_ (i := 13) (N := some 62) (v := ?_) (a' := ?_) #[N19,Y19,Y19,Y19,N19,Y19,Y19,Y19,N19,N19,N19,Y19,Y19,Y19,N19,N19] rfl rfl (any_of HT_.out (by kernel_rfl)) (fun _ _ _ h => h) (Or.inl ⟨by rfl, ?_⟩) ?_ ?_; rotate_left; (intro w'; go_simp; with_reducible rfl); rotate_left; (simp only [pq19]; rfl)
        refine take_ (i := 8) (N := some 57) (v := ?_) (a' := ?_) #[N19,Y19,Y19,Y19,N19,Y19,Y19,Y19,Y19,N19,N19,Y19,Y19,Y19,N19,N19] rfl rfl (take_ofW HT_.out HW_.out (by kernel_rfl)) (fun _ _ _ h => h) (Or.inl ⟨by rfl, ?_⟩) hHeld ?_ ?_
        rotate_left
        · rintro w' ⟨s0, s1, s2⟩
          go_simp
          with_reducible rfl
        rotate_left
        · simp only [pq19]
          rfl
        refine join_ (σ := Value × Value × Value) 3 #[Y19,Y19,Y19,Y19,Y19,Y19,Y19,Y19,Y19,Y19,N19,Y19,Y19,Y19,N19,N19] (fun s_ => [(49, s_.1), (53, s_.2.1), (58, s_.2.2)]) (fun s_ w' => (w'.cell? (ad320.add ((x9_2).toNat * 3)) = some (.int .i64 ((rd_T36 x6_1 x9_2).f0.f0)) ∧ w'.cell? ⟨(ad320.add ((x9_2).toNat * 3)).block, (ad320.add ((x9_2).toNat * 3)).off + 1, none⟩ = some (.slice A333_1 ((rd_T36 x6_1 x9_2).f0.f1).length c333_1) ∧ w'.cell? ⟨(ad320.add ((x9_2).toNat * 3)).block, (ad320.add ((x9_2).toNat * 3)).off + 2, none⟩ = some (.int .i64 ((rd_T36 x6_1 x9_2).f1))) ∧ (Kd.V (Kd.int .i64) 3 w' w.heap.size (fun k_ => (P0_ k_ ∨ w.heap.size ≤ k_) ∧ some k_ ≠ (s_.2.1 : Value).ownBlock ∧ some k_ ≠ (s_.2.2 : Value).ownBlock ∧ some k_ ≠ (.slice (some ad321) x8_2.length co10 : Value).ownBlock) (.slice A320_1 ((rd_T36 x6_1 x9_2).f0.f1).length c320_1) ((rd_T36 x6_1 x9_2).f0.f1)) ∧ (Kd.V (Kd.int .i64) 3 w' w.heap.size (fun k_ => (P0_ k_ ∨ w.heap.size ≤ k_) ∧ some k_ ≠ (s_.2.1 : Value).ownBlock ∧ some k_ ≠ (s_.2.2 : Value).ownBlock ∧ some k_ ≠ (.slice (some ad321) x8_2.length co10 : Value).ownBlock) (.slice A321_1 ((rd_T36 x8_2 (ji14)).f0.f1).length c321_1) ((rd_T36 x8_2 (ji14)).f0.f1)) ∧ (Kd.V (Kd.int .i64) 3 w' w.heap.size (fun k_ => (P0_ k_ ∨ w.heap.size ≤ k_) ∧ some k_ ≠ (s_.2.1 : Value).ownBlock ∧ some k_ ≠ (s_.2.2 : Value).ownBlock ∧ some k_ ≠ (.slice (some ad321) x8_2.length co10 : Value).ownBlock) (.slice A333_1 ((rd_T36 x6_1 x9_2).f0.f1).length c333_1) ((rd_T36 x6_1 x9_2).f0.f1)) ∧ (Kd.V k36 36 w' w.heap.size (fun k_ => (P0_ k_ ∨ w.heap.size ≤ k_) ∧ some k_ ≠ (s_.2.1 : Value).ownBlock ∧ some k_ ≠ (s_.2.2 : Value).ownBlock) (.slice (some ad321) y325.length co10) y325) ∧ (Kd.N k36 36 w' w.heap.size (fun k_ => (P0_ k_ ∨ w.heap.size ≤ k_) ∧ some k_ ≠ (s_.2.2 : Value).ownBlock) s_.2.1 y330) ∧ (Kd.N k36 36 w' w.heap.size (fun k_ => (P0_ k_ ∨ w.heap.size ≤ k_) ∧ some k_ ≠ (s_.2.1 : Value).ownBlock ∧ some k_ ≠ (.slice (some ad321) x8_2.length co10 : Value).ownBlock) s_.2.2 y334) ∧ (Kd.V k36 36 w' w.heap.size (fun k_ => (P0_ k_ ∨ w.heap.size ≤ k_) ∧ some k_ ≠ (s_.2.1 : Value).ownBlock ∧ some k_ ≠ (s_.2.2 : Value).ownBlock) (.slice A29 y340.length c29) y340) ∧ (Kd.V k36 36 w' w.heap.size (fun k_ => (P0_ k_ ∨ w.heap.size ≤ k_) ∧ some k_ ≠ (s_.2.1 : Value).ownBlock ∧ some k_ ≠ (s_.2.2 : Value).ownBlock ∧ some k_ ≠ (.slice (some ad321) x8_2.length co10 : Value).ownBlock) (.slice (some ad320) x6_1.length co9) x6_1) ∧ (Kd.N k36 36 w' w.heap.size (fun k_ => (P0_ k_ ∨ w.heap.size ≤ k_) ∧ some k_ ≠ (s_.2.1 : Value).ownBlock ∧ some k_ ≠ (s_.2.2 : Value).ownBlock) (.slice (some ad321) x8_2.length co10) x8_2) ∧ (Below w.heap.size w w')) ?_ ?_
        rotate_left
        · intro hCont
          refine two_ (i := 0) (j := 9) (Ni := some 49) (Nj := some 58) #[Y19,Y19,Y19,Y19,N19,Y19,Y19,Y19,Y19,N19,N19,Y19,Y19,Y19,N19,N19] #[N19,Y19,Y19,Y19,N19,Y19,Y19,Y19,Y19,Y19,N19,Y19,Y19,Y19,N19,N19] rfl rfl rfl rfl (two_of HT_.out (by kernel_rfl)) (by decide) (by decide) (fun K hK => ?_) (fun K hK => ?_)
          rotate_left
          · skip
            refine Kd.N_lit_step k36 _ 36 ?hg (N' := 58) ?hd (xs := ([(⟨(⟨(rd_T36 x6_1 x9_2).f0.f0, (rd_T36 x6_1 x9_2).f0.f1⟩ : S24), (rd_T36 x6_1 x9_2).f1⟩ : S36)] : List (S36))) (inner := [.int .i64 ((rd_T36 x6_1 x9_2).f0.f0), .slice A333_1 ((rd_T36 x6_1 x9_2).f0.f1).length c333_1, .int .i64 ((rd_T36 x6_1 x9_2).f1)]) (ok := (fun k_ => (P0_ k_ ∨ w.heap.size ≤ k_) ∧ some k_ ≠ (.slice (some ad321) x8_2.length co10 : Value).ownBlock)) (okp := (fun k_ => (P0_ k_ ∨ w.heap.size ≤ k_) ∧ some k_ ≠ (.slice (some ad321) x8_2.length co10 : Value).ownBlock)) ?hr ?hp (fun _ hk => hk) ((show ∀ k_, w27.heap.size ≤ k_ → (fun k_ => (P0_ k_ ∨ w.heap.size ≤ k_) ∧ some k_ ≠ (.slice (some ad321) x8_2.length co10 : Value).ownBlock) k_ from fun k_ hk => ⟨(.inr (Nat.le_trans (below_size (by exact wU HB.out)) hk)), Kd.fresh' (Kd.N_lt (by exact nU HO_8.out)) k_ hk⟩) _ (Nat.le_refl _)) (Below.refl _ _) (Nat.le_refl _) (by simp) ?_; (case hd => rfl); (case hg => rfl); (case hr => first | (go_simp; done) | (go_simp; rfl)); (case hp => exact (Reps.c3 (show Kd.FK k36 _ _ (⟨(⟨(rd_T36 x6_1 x9_2).f0.f0, (rd_T36 x6_1 x9_2).f0.f1⟩ : S24), (rd_T36 x6_1 x9_2).f1⟩ : S36) [.int .i64 ((rd_T36 x6_1 x9_2).f0.f0), .slice A333_1 ((rd_T36 x6_1 x9_2).f0.f1).length c333_1, .int .i64 ((rd_T36 x6_1 x9_2).f1)] from (k36_mkF _ _ (⟨(⟨(rd_T36 x6_1 x9_2).f0.f0, (rd_T36 x6_1 x9_2).f0.f1⟩ : S24), (rd_T36 x6_1 x9_2).f1⟩ : S36) (Kd.V_reads' (Kd.V_mono (ok' := (fun k_ => (P0_ k_ ∨ w.heap.size ≤ k_) ∧ some k_ ≠ (.slice (some ad321) x8_2.length co10 : Value).ownBlock)) (HL333_1.out) (fun k_ hk => ⟨hk.1, hk.2⟩))).2.1 (Kd.V_F (Kd.V_mono (ok' := (fun k_ => (P0_ k_ ∨ w.heap.size ≤ k_) ∧ some k_ ≠ (.slice (some ad321) x8_2.length co10 : Value).ownBlock)) (HL333_1.out) (fun k_ hk => ⟨hk.1, hk.2⟩))))) (Reps.none _ _)))
            intro v335 w30 ho31 hb hg_ hnew_
            have HS0_ := (hb.cell (World.block_lt_of_cell? _ _ (hHeld.1))).trans (hHeld.1)
            have HS1_ := (hb.cell (World.block_lt_of_cell? _ _ (hHeld.2.1))).trans (hHeld.2.1)
            have HS2_ := (hb.cell (World.block_lt_of_cell? _ _ (hHeld.2.2))).trans (hHeld.2.2)
            clear hg_ hnew_
            (first | rw [← Ny334.out] at ho31 | (simp only [Int.reduceToNat] at ho31; rw [← Ny334.out] at ho31))
            have n0_ := Aside0.mk (Kd.V_elder' (by exact vU HO_6.out) (Kd.N_base ho31) hb)
            have n1_ := Aside0.mk (Kd.N_elder' (by exact nU HO_8.out) (Kd.N_base ho31) hb)
            have n2_ := Aside0.mk (Kd.V_elder' (by exact vU HL320_1.out) (Kd.N_base ho31) hb)
            have n3_ := Aside0.mk (Kd.V_elder' (by exact vU HL321_1.out) (Kd.N_base ho31) hb)
            have n4_ := Aside0.mk (Kd.V_elder' (by exact vU HO329.out) (Kd.N_base ho31) hb)
            have n5_ := Aside0.mk (Kd.V_elder' (by exact vU HL333_1.out) (Kd.N_base ho31) hb)
            have n6_ := Aside0.mk (Kd.V_elder' (by exact vU HO344.out) (Kd.N_base ho31) hb)
            have n7_ := Aside0.mk (Kd.N_lower ho31 (below_size (by exact wU HB.out)))
            have n8_ := Aside0.mk (Kd.C_below (by repeat (first | (with_reducible exact HR320_1.out) | (with_reducible refine Kd.C_alloc ?_ _) | (with_reducible refine Kd.C_drewN ?_ _) | (with_reducible refine Kd.C_drew ?_) | exact HR320_1.out)) hb)
            have n9_ := Aside0.mk (Kd.C_below (by repeat (first | (with_reducible exact HR321_1.out) | (with_reducible refine Kd.C_alloc ?_ _) | (with_reducible refine Kd.C_drewN ?_ _) | (with_reducible refine Kd.C_drew ?_) | exact HR321_1.out)) hb)
            have n10_ := Aside0.mk (Kd.C_below (by repeat (first | (with_reducible exact HR333_1.out) | (with_reducible refine Kd.C_alloc ?_ _) | (with_reducible refine Kd.C_drewN ?_ _) | (with_reducible refine Kd.C_drew ?_) | exact HR333_1.out)) hb)
            have n11_ := Aside0.mk (below_step (by exact wU HB.out) hb)
            clear HO_6 HO_8 HL320_1 HL321_1 HO329 HL333_1 HO344 HR320_1 HR321_1 HR333_1 HB
            have HO_6 := n0_
            have HO_8 := n1_
            have HL320_1 := n2_
            have HL321_1 := n3_
            have HO329 := n4_
            have HL333_1 := n5_
            have HO344 := n6_
            have HO336 := n7_
            have HR320_1 := n8_
            have HR321_1 := n9_
            have HR333_1 := n10_
            have HB := n11_
            clear n0_ n1_ n2_ n3_ n4_ n5_ n6_ n7_ n8_ n9_ n10_ n11_ hb ho31
            refine hK.out _ _ ⟨HS0_, HS1_, HS2_⟩ (fun hHeld => ?_)
            clear hK K
            refine norm_ (a' := ?_) ?_ ?_
            rotate_left
            · show Act.put _ (some 58) _ = _
              simp only [pq19]
              rfl
            refine one_ (i := 0) (N := some 49) #[Y19,Y19,Y19,Y19,N19,Y19,Y19,Y19,Y19,Y19,N19,Y19,Y19,Y19,N19,N19] rfl rfl (one_of HT_.out (by kernel_rfl)) (by decide) (fun K hK => ?_)
            refine Kd.N_lit_step k36 _ 36 ?hg (N' := 49) ?hd (xs := ([] : List (S36))) (inner := []) (ok := (fun k_ => (P0_ k_ ∨ w.heap.size ≤ k_) ∧ some k_ ≠ (.slice (some ad321) x8_2.length co10 : Value).ownBlock ∧ some k_ ≠ (v335 : Value).ownBlock)) (okp := (fun k_ => (P0_ k_ ∨ w.heap.size ≤ k_) ∧ some k_ ≠ (.slice (some ad321) x8_2.length co10 : Value).ownBlock ∧ some k_ ≠ (v335 : Value).ownBlock)) ?hr ?hp (fun _ hk => hk) ((show ∀ k_, w30.heap.size ≤ k_ → (fun k_ => (P0_ k_ ∨ w.heap.size ≤ k_) ∧ some k_ ≠ (.slice (some ad321) x8_2.length co10 : Value).ownBlock ∧ some k_ ≠ (v335 : Value).ownBlock) k_ from fun k_ hk => ⟨(.inr (Nat.le_trans (below_size (by exact wU HB.out)) hk)), Kd.fresh' (Kd.N_lt (by exact nU HO_8.out)) k_ hk, Kd.fresh' (Kd.N_lt (by exact nU HO336.out)) k_ hk⟩) _ (Nat.le_refl _)) (Below.refl _ _) (Nat.le_refl _) (by simp) ?_; (case hd => rfl); (case hg => rfl); (case hr => first | (go_simp; done) | (go_simp; rfl)); (case hp => exact (Reps.none _ _))
            intro v323 w32 ho33 hb hg_ hnew_
            have HS0_ := (hb.cell (World.block_lt_of_cell? _ _ (hHeld.1))).trans (hHeld.1)
            have HS1_ := (hb.cell (World.block_lt_of_cell? _ _ (hHeld.2.1))).trans (hHeld.2.1)
            have HS2_ := (hb.cell (World.block_lt_of_cell? _ _ (hHeld.2.2))).trans (hHeld.2.2)
            clear hg_ hnew_
            (first | rw [← Ny322.out] at ho33 | (simp only [Int.reduceToNat] at ho33; rw [← Ny322.out] at ho33))
            have n0_ := Aside0.mk (Kd.V_elder' (by exact vU HO_6.out) (Kd.N_base ho33) hb)
            have n1_ := Aside0.mk (Kd.N_elder' (by exact nU HO_8.out) (Kd.N_base ho33) hb)
            have n2_ := Aside0.mk (Kd.V_elder' (by exact vU HL320_1.out) (Kd.N_base ho33) hb)
            have n3_ := Aside0.mk (Kd.V_elder' (by exact vU HL321_1.out) (Kd.N_base ho33) hb)
            have n4_ := Aside0.mk (Kd.V_elder' (by exact vU HO329.out) (Kd.N_base ho33) hb)
            have n5_ := Aside0.mk (Kd.V_elder' (by exact vU HL333_1.out) (Kd.N_base ho33) hb)
            have n6_ := Aside0.mk (Kd.V_elder' (by exact vU HO344.out) (Kd.N_base ho33) hb)
            have n7_ := Aside0.mk (Kd.N_elder' (by exact nU HO336.out) (Kd.N_base ho33) hb)
            have n8_ := Aside0.mk (Kd.N_lower ho33 (below_size (by exact wU HB.out)))
            have n9_ := Aside0.mk (Kd.C_below (by repeat (first | (with_reducible exact HR320_1.out) | (with_reducible refine Kd.C_alloc ?_ _) | (with_reducible refine Kd.C_drewN ?_ _) | (with_reducible refine Kd.C_drew ?_) | exact HR320_1.out)) hb)
            have n10_ := Aside0.mk (Kd.C_below (by repeat (first | (with_reducible exact HR321_1.out) | (with_reducible refine Kd.C_alloc ?_ _) | (with_reducible refine Kd.C_drewN ?_ _) | (with_reducible refine Kd.C_drew ?_) | exact HR321_1.out)) hb)
            have n11_ := Aside0.mk (Kd.C_below (by repeat (first | (with_reducible exact HR333_1.out) | (with_reducible refine Kd.C_alloc ?_ _) | (with_reducible refine Kd.C_drewN ?_ _) | (with_reducible refine Kd.C_drew ?_) | exact HR333_1.out)) hb)
            have n12_ := Aside0.mk (below_step (by exact wU HB.out) hb)
            clear HO_6 HO_8 HL320_1 HL321_1 HO329 HL333_1 HO344 HO336 HR320_1 HR321_1 HR333_1 HB
            have HO_6 := n0_
            have HO_8 := n1_
            have HL320_1 := n2_
            have HL321_1 := n3_
            have HO329 := n4_
            have HL333_1 := n5_
            have HO344 := n6_
            have HO336 := n7_
            have HO324 := n8_
            have HR320_1 := n9_
            have HR321_1 := n10_
            have HR333_1 := n11_
            have HB := n12_
            clear n0_ n1_ n2_ n3_ n4_ n5_ n6_ n7_ n8_ n9_ n10_ n11_ n12_ hb ho33
            refine hK.out _ _ ⟨HS0_, HS1_, HS2_⟩ (fun hHeld => ?_)
            clear hK K
            refine norm_ (a' := ?_) ?_ ?_
            rotate_left
            · show Act.put _ (some 49) _ = _
              simp only [pq19]
              rfl
            refine one_ (i := 4) (N := some 53) #[Y19,Y19,Y19,Y19,Y19,Y19,Y19,Y19,Y19,Y19,N19,Y19,Y19,Y19,N19,N19] rfl rfl (one_of HT_.out (by kernel_rfl)) (by decide) (fun K hK => ?_)
            refine Kd.N_append_rows_step k36 (w0 := w) w.heap.size (by rfl) (.tmp 49) (.tmp 52) 28 36 (.agg #[(.int .i64 0), (.slice none 0 0), (.int .i64 0)]) 40 rfl Tryd.underlying28 info36 rfl (by decide) (by omega) v323 y322 y325 _ _ _ (fun k_ => (P0_ k_ ∨ w.heap.size ≤ k_) ∧ some k_ ≠ (v335 : Value).ownBlock) (fun k_ => ((fun k_ => (P0_ k_ ∨ w.heap.size ≤ k_) ∧ some k_ ≠ (v335 : Value).ownBlock)) k_ ∧ some k_ ≠ (v323 : Value).ownBlock) rfl rfl ?aO ?aR (fun _ hk => hk) ?aF ?aB ?aS ?aL ?_
            (case aR => exact (by skip; exact Kd.V_F (Kd.V_mono (ok' := (fun k_ => ((fun k_ => (P0_ k_ ∨ w.heap.size ≤ k_) ∧ some k_ ≠ (v335 : Value).ownBlock)) k_ ∧ some k_ ≠ (v323 : Value).ownBlock)) (HO329.out) (fun k_ hk => ⟨⟨hk.1.1, hk.1.2⟩, hk.2⟩))))
            (case aB => exact (by exact wU HB.out))
            (case aF => exact (fun k_ hk => ⟨(.inr (Nat.le_trans (below_size (by exact wU HB.out)) hk)), Kd.fresh' (Kd.N_lt (by exact nU HO336.out)) k_ hk⟩))
            (case aO => exact (by exact nU (Kd.N_mono HO324.out (fun _ hk => ⟨hk.1, hk.2.2⟩))))
            (case aS => exact (below_size (by exact wU HB.out)))
            (case aL => have := LMc21.out; omega)
            intro v331 w34 ho hb hg hat
            have HS0_ := cgz hg (hHeld.1) (by show some (Addr.add _ _).block ≠ _; rw [add_block]; have h_ := V_ok HO_6.out (by decide) (vpos ‹_› ‹_›); first | exact h_.2 | exact h_.1.2 | exact h_.1.1.2 | exact h_.2.1 | exact h_.2.2)
            have HS1_ := cgz hg (hHeld.2.1) (by show some (Addr.add _ _).block ≠ _; rw [add_block]; have h_ := V_ok HO_6.out (by decide) (vpos ‹_› ‹_›); first | exact h_.2 | exact h_.1.2 | exact h_.1.1.2 | exact h_.2.1 | exact h_.2.2)
            have HS2_ := cgz hg (hHeld.2.2) (by show some (Addr.add _ _).block ≠ _; rw [add_block]; have h_ := V_ok HO_6.out (by decide) (vpos ‹_› ‹_›); first | exact h_.2 | exact h_.1.2 | exact h_.1.1.2 | exact h_.2.1 | exact h_.2.2)
            rw [← Ny330.out] at ho
            have n0_ := Aside0.mk (Kd.V_afterv (ok := (fun k_ => (P0_ k_ ∨ w.heap.size ≤ k_) ∧ some k_ ≠ (.slice (some ad321) x8_2.length co10 : Value).ownBlock ∧ some k_ ≠ (v335 : Value).ownBlock)) (by exact vU (Kd.V_mono HO_6.out (fun _ hk => ⟨⟨hk.1.1.1, ⟨hk.1.1.2, hk.1.2⟩⟩, hk.2⟩))) hg hat)
            have n1_ := Aside0.mk (Kd.N_afterv (ok := (fun k_ => (P0_ k_ ∨ w.heap.size ≤ k_) ∧ some k_ ≠ (v335 : Value).ownBlock)) (by exact nU HO_8.out) hg hat)
            have n2_ := Aside0.mk (Kd.V_afterv (ok := (fun k_ => (P0_ k_ ∨ w.heap.size ≤ k_) ∧ some k_ ≠ (.slice (some ad321) x8_2.length co10 : Value).ownBlock ∧ some k_ ≠ (v335 : Value).ownBlock)) (by exact vU (Kd.V_mono HL320_1.out (fun _ hk => ⟨⟨hk.1.1.1, ⟨hk.1.1.2, hk.1.2⟩⟩, hk.2⟩))) hg hat)
            have n3_ := Aside0.mk (Kd.V_afterv (ok := (fun k_ => (P0_ k_ ∨ w.heap.size ≤ k_) ∧ some k_ ≠ (.slice (some ad321) x8_2.length co10 : Value).ownBlock ∧ some k_ ≠ (v335 : Value).ownBlock)) (by exact vU (Kd.V_mono HL321_1.out (fun _ hk => ⟨⟨hk.1.1.1, ⟨hk.1.1.2, hk.1.2⟩⟩, hk.2⟩))) hg hat)
            have n4_ := Aside0.mk (Kd.V_afterv (ok := (fun k_ => (P0_ k_ ∨ w.heap.size ≤ k_) ∧ some k_ ≠ (v335 : Value).ownBlock)) (by exact vU HO329.out) hg hat)
            have n5_ := Aside0.mk (Kd.V_afterv (ok := (fun k_ => (P0_ k_ ∨ w.heap.size ≤ k_) ∧ some k_ ≠ (.slice (some ad321) x8_2.length co10 : Value).ownBlock ∧ some k_ ≠ (v335 : Value).ownBlock)) (by exact vU (Kd.V_mono HL333_1.out (fun _ hk => ⟨⟨hk.1.1.1, ⟨hk.1.1.2, hk.1.2⟩⟩, hk.2⟩))) hg hat)
            have n6_ := Aside0.mk (Kd.V_afterv (ok := (fun k_ => (P0_ k_ ∨ w.heap.size ≤ k_) ∧ some k_ ≠ (v335 : Value).ownBlock)) (by exact vU HO344.out) hg hat)
            have n7_ := Aside0.mk (Kd.N_afterv (ok := (fun k_ => (P0_ k_ ∨ w.heap.size ≤ k_) ∧ some k_ ≠ (.slice (some ad321) x8_2.length co10 : Value).ownBlock)) (by exact nU HO336.out) hg hat)
            have n8_ := Aside0.mk (hb)
            have n9_ := Aside0.mk (ho)
            clear HO_6 HO_8 HL320_1 HL321_1 HO329 HL333_1 HO344 HO336 HB HO324
            have HO_6 := n0_
            have HO_8 := n1_
            have HL320_1 := n2_
            have HL321_1 := n3_
            have HO329 := n4_
            have HL333_1 := n5_
            have HO344 := n6_
            have HO336 := n7_
            have HB := n8_
            have HO332 := n9_
            clear n0_ n1_ n2_ n3_ n4_ n5_ n6_ n7_ n8_ n9_ ho hb hg hat
            refine hK.out _ _ ⟨HS0_, HS1_, HS2_⟩ (fun hHeld => ?_)
            clear hK K
            refine norm_ (a' := ?_) ?_ ?_
            rotate_left
            · show Act.put _ (some 53) _ = _
              simp only [pq19]
              rfl
            exact norm_ (by simp only [putAll, Act.put, List.setIfInBounds_toArray, List.set_cons_zero, List.set_cons_succ]) (hCont (v323, v331, v335) _ ⟨hHeld, (by exact vU (Kd.V_mono HL320_1.out (fun _ hk => ⟨hk.1.1, ⟨hk.2, ⟨hk.1.2.2, hk.1.2.1⟩⟩⟩))), (by exact vU (Kd.V_mono HL321_1.out (fun _ hk => ⟨hk.1.1, ⟨hk.2, ⟨hk.1.2.2, hk.1.2.1⟩⟩⟩))), (by exact vU (Kd.V_mono HL333_1.out (fun _ hk => ⟨hk.1.1, ⟨hk.2, ⟨hk.1.2.2, hk.1.2.1⟩⟩⟩))), (by exact vU (Kd.V_mono HO329.out (fun _ hk => ⟨hk.1.1, ⟨hk.2, hk.1.2⟩⟩))), (by exact nU HO332.out), (by exact nU (Kd.N_mono HO336.out (fun _ hk => ⟨hk.1.1, ⟨hk.2, hk.1.2⟩⟩))), (by exact vU (Kd.V_mono HO344.out (fun _ hk => ⟨hk.1.1, ⟨hk.2, hk.1.2⟩⟩))), (by exact vU (Kd.V_mono HO_6.out (fun _ hk => ⟨hk.1.1, ⟨hk.2, ⟨hk.1.2.2, hk.1.2.1⟩⟩⟩))), (by exact nU (Kd.N_mono HO_8.out (fun _ hk => ⟨hk.1.1, ⟨hk.2, hk.1.2⟩⟩))), (by exact wU HB.out)⟩)
          skip
          refine Kd.N_lit_step k36 _ 36 ?hg (N' := 49) ?hd (xs := ([] : List (S36))) (inner := []) (ok := (fun k_ => (P0_ k_ ∨ w.heap.size ≤ k_) ∧ some k_ ≠ (.slice (some ad321) x8_2.length co10 : Value).ownBlock)) (okp := (fun k_ => (P0_ k_ ∨ w.heap.size ≤ k_) ∧ some k_ ≠ (.slice (some ad321) x8_2.length co10 : Value).ownBlock)) ?hr ?hp (fun _ hk => hk) ((show ∀ k_, w27.heap.size ≤ k_ → (fun k_ => (P0_ k_ ∨ w.heap.size ≤ k_) ∧ some k_ ≠ (.slice (some ad321) x8_2.length co10 : Value).ownBlock) k_ from fun k_ hk => ⟨(.inr (Nat.le_trans (below_size (by exact wU HB.out)) hk)), Kd.fresh' (Kd.N_lt (by exact nU HO_8.out)) k_ hk⟩) _ (Nat.le_refl _)) (Below.refl _ _) (Nat.le_refl _) (by simp) ?_; (case hd => rfl); (case hg => rfl); (case hr => first | (go_simp; done) | (go_simp; rfl)); (case hp => exact (Reps.none _ _))
          intro v323 w30 ho31 hb hg_ hnew_
          have HS0_ := (hb.cell (World.block_lt_of_cell? _ _ (hHeld.1))).trans (hHeld.1)
          have HS1_ := (hb.cell (World.block_lt_of_cell? _ _ (hHeld.2.1))).trans (hHeld.2.1)
          have HS2_ := (hb.cell (World.block_lt_of_cell? _ _ (hHeld.2.2))).trans (hHeld.2.2)
          clear hg_ hnew_
          (first | rw [← Ny322.out] at ho31 | (simp only [Int.reduceToNat] at ho31; rw [← Ny322.out] at ho31))
          have n0_ := Aside0.mk (Kd.V_elder' (by exact vU HO_6.out) (Kd.N_base ho31) hb)
          have n1_ := Aside0.mk (Kd.N_elder' (by exact nU HO_8.out) (Kd.N_base ho31) hb)
          have n2_ := Aside0.mk (Kd.V_elder' (by exact vU HL320_1.out) (Kd.N_base ho31) hb)
          have n3_ := Aside0.mk (Kd.V_elder' (by exact vU HL321_1.out) (Kd.N_base ho31) hb)
          have n4_ := Aside0.mk (Kd.V_elder' (by exact vU HO329.out) (Kd.N_base ho31) hb)
          have n5_ := Aside0.mk (Kd.V_elder' (by exact vU HL333_1.out) (Kd.N_base ho31) hb)
          have n6_ := Aside0.mk (Kd.V_elder' (by exact vU HO344.out) (Kd.N_base ho31) hb)
          have n7_ := Aside0.mk (Kd.N_lower ho31 (below_size (by exact wU HB.out)))
          have n8_ := Aside0.mk (Kd.C_below (by repeat (first | (with_reducible exact HR320_1.out) | (with_reducible refine Kd.C_alloc ?_ _) | (with_reducible refine Kd.C_drewN ?_ _) | (with_reducible refine Kd.C_drew ?_) | exact HR320_1.out)) hb)
          have n9_ := Aside0.mk (Kd.C_below (by repeat (first | (with_reducible exact HR321_1.out) | (with_reducible refine Kd.C_alloc ?_ _) | (with_reducible refine Kd.C_drewN ?_ _) | (with_reducible refine Kd.C_drew ?_) | exact HR321_1.out)) hb)
          have n10_ := Aside0.mk (Kd.C_below (by repeat (first | (with_reducible exact HR333_1.out) | (with_reducible refine Kd.C_alloc ?_ _) | (with_reducible refine Kd.C_drewN ?_ _) | (with_reducible refine Kd.C_drew ?_) | exact HR333_1.out)) hb)
          have n11_ := Aside0.mk (below_step (by exact wU HB.out) hb)
          clear HO_6 HO_8 HL320_1 HL321_1 HO329 HL333_1 HO344 HR320_1 HR321_1 HR333_1 HB
          have HO_6 := n0_
          have HO_8 := n1_
          have HL320_1 := n2_
          have HL321_1 := n3_
          have HO329 := n4_
          have HL333_1 := n5_
          have HO344 := n6_
          have HO324 := n7_
          have HR320_1 := n8_
          have HR321_1 := n9_
          have HR333_1 := n10_
          have HB := n11_
          clear n0_ n1_ n2_ n3_ n4_ n5_ n6_ n7_ n8_ n9_ n10_ n11_ hb ho31
          refine hK.out _ _ ⟨HS0_, HS1_, HS2_⟩ (fun hHeld => ?_)
          clear hK K
          refine norm_ (a' := ?_) ?_ ?_
          rotate_left
          · show Act.put _ (some 49) _ = _
            simp only [pq19]
            rfl
          refine two_ (i := 4) (j := 9) (Ni := some 53) (Nj := some 58) #[Y19,Y19,Y19,Y19,Y19,Y19,Y19,Y19,Y19,N19,N19,Y19,Y19,Y19,N19,N19] #[Y19,Y19,Y19,Y19,N19,Y19,Y19,Y19,Y19,Y19,N19,Y19,Y19,Y19,N19,N19] rfl rfl rfl rfl (two_of HT_.out (by kernel_rfl)) (by decide) (by decide) (fun K hK => ?_) (fun K hK => ?_)
          · skip
            refine Kd.N_append_rows_step k36 (w0 := w) w.heap.size (by rfl) (.tmp 49) (.tmp 52) 28 36 (.agg #[(.int .i64 0), (.slice none 0 0), (.int .i64 0)]) 40 rfl Tryd.underlying28 info36 rfl (by decide) (by omega) v323 y322 y325 _ _ _ (fun k_ => (P0_ k_ ∨ w.heap.size ≤ k_)) (fun k_ => ((fun k_ => (P0_ k_ ∨ w.heap.size ≤ k_))) k_ ∧ some k_ ≠ (v323 : Value).ownBlock) rfl rfl ?aO ?aR (fun _ hk => hk) ?aF ?aB ?aS ?aL ?_
            (case aR => exact (by skip; exact Kd.V_F (Kd.V_mono (ok' := (fun k_ => ((fun k_ => (P0_ k_ ∨ w.heap.size ≤ k_))) k_ ∧ some k_ ≠ (v323 : Value).ownBlock)) (HO329.out) (fun k_ hk => ⟨hk.1, hk.2⟩))))
            (case aB => exact (by exact wU HB.out))
            (case aF => exact (fun k_ hk => (.inr (Nat.le_trans (below_size (by exact wU HB.out)) hk))))
            (case aO => exact (by exact nU (Kd.N_mono HO324.out (fun _ hk => hk.1))))
            (case aS => exact (below_size (by exact wU HB.out)))
            (case aL => have := LMc21.out; omega)
            intro v331 w32 ho hb hg hat
            have HS0_ := cgz hg (hHeld.1) (by show some (Addr.add _ _).block ≠ _; rw [add_block]; have h_ := V_ok HO_6.out (by decide) (vpos ‹_› ‹_›); first | exact h_.2 | exact h_.1.2 | exact h_.1.1.2 | exact h_.2.1 | exact h_.2.2)
            have HS1_ := cgz hg (hHeld.2.1) (by show some (Addr.add _ _).block ≠ _; rw [add_block]; have h_ := V_ok HO_6.out (by decide) (vpos ‹_› ‹_›); first | exact h_.2 | exact h_.1.2 | exact h_.1.1.2 | exact h_.2.1 | exact h_.2.2)
            have HS2_ := cgz hg (hHeld.2.2) (by show some (Addr.add _ _).block ≠ _; rw [add_block]; have h_ := V_ok HO_6.out (by decide) (vpos ‹_› ‹_›); first | exact h_.2 | exact h_.1.2 | exact h_.1.1.2 | exact h_.2.1 | exact h_.2.2)
            rw [← Ny330.out] at ho
            have n0_ := Aside0.mk (Kd.V_afterv (ok := (fun k_ => (P0_ k_ ∨ w.heap.size ≤ k_) ∧ some k_ ≠ (.slice (some ad321) x8_2.length co10 : Value).ownBlock)) (by exact vU HO_6.out) hg hat)
            have n1_ := Aside0.mk (Kd.N_afterv (ok := (fun k_ => (P0_ k_ ∨ w.heap.size ≤ k_))) (by exact nU HO_8.out) hg hat)
            have n2_ := Aside0.mk (Kd.V_afterv (ok := (fun k_ => (P0_ k_ ∨ w.heap.size ≤ k_) ∧ some k_ ≠ (.slice (some ad321) x8_2.length co10 : Value).ownBlock)) (by exact vU HL320_1.out) hg hat)
            have n3_ := Aside0.mk (Kd.V_afterv (ok := (fun k_ => (P0_ k_ ∨ w.heap.size ≤ k_) ∧ some k_ ≠ (.slice (some ad321) x8_2.length co10 : Value).ownBlock)) (by exact vU HL321_1.out) hg hat)
            have n4_ := Aside0.mk (Kd.V_afterv (ok := (fun k_ => (P0_ k_ ∨ w.heap.size ≤ k_))) (by exact vU HO329.out) hg hat)
            have n5_ := Aside0.mk (Kd.V_afterv (ok := (fun k_ => (P0_ k_ ∨ w.heap.size ≤ k_) ∧ some k_ ≠ (.slice (some ad321) x8_2.length co10 : Value).ownBlock)) (by exact vU HL333_1.out) hg hat)
            have n6_ := Aside0.mk (Kd.V_afterv (ok := (fun k_ => (P0_ k_ ∨ w.heap.size ≤ k_))) (by exact vU HO344.out) hg hat)
            have n7_ := Aside0.mk (hb)
            have n8_ := Aside0.mk (ho)
            clear HO_6 HO_8 HL320_1 HL321_1 HO329 HL333_1 HO344 HB HO324
            have HO_6 := n0_
            have HO_8 := n1_
            have HL320_1 := n2_
            have HL321_1 := n3_
            have HO329 := n4_
            have HL333_1 := n5_
            have HO344 := n6_
            have HB := n7_
            have HO332 := n8_
            clear n0_ n1_ n2_ n3_ n4_ n5_ n6_ n7_ n8_ ho hb hg hat
            refine hK.out _ _ ⟨HS0_, HS1_, HS2_⟩ (fun hHeld => ?_)
            clear hK K
            refine norm_ (a' := ?_) ?_ ?_
            rotate_left
            · show Act.put _ (some 53) _ = _
              simp only [pq19]
              rfl
            refine one_ (i := 9) (N := some 58) #[Y19,Y19,Y19,Y19,Y19,Y19,Y19,Y19,Y19,Y19,N19,Y19,Y19,Y19,N19,N19] rfl rfl (one_of HT_.out (by kernel_rfl)) (by decide) (fun K hK => ?_)
            refine Kd.N_lit_step k36 _ 36 ?hg (N' := 58) ?hd (xs := ([(⟨(⟨(rd_T36 x6_1 x9_2).f0.f0, (rd_T36 x6_1 x9_2).f0.f1⟩ : S24), (rd_T36 x6_1 x9_2).f1⟩ : S36)] : List (S36))) (inner := [.int .i64 ((rd_T36 x6_1 x9_2).f0.f0), .slice A333_1 ((rd_T36 x6_1 x9_2).f0.f1).length c333_1, .int .i64 ((rd_T36 x6_1 x9_2).f1)]) (ok := (fun k_ => (P0_ k_ ∨ w.heap.size ≤ k_) ∧ some k_ ≠ (.slice (some ad321) x8_2.length co10 : Value).ownBlock ∧ some k_ ≠ (v331 : Value).ownBlock)) (okp := (fun k_ => (P0_ k_ ∨ w.heap.size ≤ k_) ∧ some k_ ≠ (.slice (some ad321) x8_2.length co10 : Value).ownBlock ∧ some k_ ≠ (v331 : Value).ownBlock)) ?hr ?hp (fun _ hk => hk) ((show ∀ k_, w32.heap.size ≤ k_ → (fun k_ => (P0_ k_ ∨ w.heap.size ≤ k_) ∧ some k_ ≠ (.slice (some ad321) x8_2.length co10 : Value).ownBlock ∧ some k_ ≠ (v331 : Value).ownBlock) k_ from fun k_ hk => ⟨(.inr (Nat.le_trans (below_size (by exact wU HB.out)) hk)), Kd.fresh' (Kd.N_lt (by exact nU HO_8.out)) k_ hk, Kd.fresh' (Kd.N_lt (by exact nU HO332.out)) k_ hk⟩) _ (Nat.le_refl _)) (Below.refl _ _) (Nat.le_refl _) (by simp) ?_; (case hd => rfl); (case hg => rfl); (case hr => first | (go_simp; done) | (go_simp; rfl)); (case hp => exact (Reps.c3 (show Kd.FK k36 _ _ (⟨(⟨(rd_T36 x6_1 x9_2).f0.f0, (rd_T36 x6_1 x9_2).f0.f1⟩ : S24), (rd_T36 x6_1 x9_2).f1⟩ : S36) [.int .i64 ((rd_T36 x6_1 x9_2).f0.f0), .slice A333_1 ((rd_T36 x6_1 x9_2).f0.f1).length c333_1, .int .i64 ((rd_T36 x6_1 x9_2).f1)] from (k36_mkF _ _ (⟨(⟨(rd_T36 x6_1 x9_2).f0.f0, (rd_T36 x6_1 x9_2).f0.f1⟩ : S24), (rd_T36 x6_1 x9_2).f1⟩ : S36) (Kd.V_reads' (Kd.V_mono (ok' := (fun k_ => (P0_ k_ ∨ w.heap.size ≤ k_) ∧ some k_ ≠ (.slice (some ad321) x8_2.length co10 : Value).ownBlock ∧ some k_ ≠ (v331 : Value).ownBlock)) (HL333_1.out) (fun k_ hk => ⟨hk.1.1, ⟨hk.1.2, hk.2⟩⟩))).2.1 (Kd.V_F (Kd.V_mono (ok' := (fun k_ => (P0_ k_ ∨ w.heap.size ≤ k_) ∧ some k_ ≠ (.slice (some ad321) x8_2.length co10 : Value).ownBlock ∧ some k_ ≠ (v331 : Value).ownBlock)) (HL333_1.out) (fun k_ hk => ⟨hk.1.1, ⟨hk.1.2, hk.2⟩⟩))))) (Reps.none _ _)))
            intro v335 w33 ho34 hb hg_ hnew_
            have HS0_ := (hb.cell (World.block_lt_of_cell? _ _ (hHeld.1))).trans (hHeld.1)
            have HS1_ := (hb.cell (World.block_lt_of_cell? _ _ (hHeld.2.1))).trans (hHeld.2.1)
            have HS2_ := (hb.cell (World.block_lt_of_cell? _ _ (hHeld.2.2))).trans (hHeld.2.2)
            clear hg_ hnew_
            (first | rw [← Ny334.out] at ho34 | (simp only [Int.reduceToNat] at ho34; rw [← Ny334.out] at ho34))
            have n0_ := Aside0.mk (Kd.V_elder' (by exact vU HO_6.out) (Kd.N_base ho34) hb)
            have n1_ := Aside0.mk (Kd.N_elder' (by exact nU HO_8.out) (Kd.N_base ho34) hb)
            have n2_ := Aside0.mk (Kd.V_elder' (by exact vU HL320_1.out) (Kd.N_base ho34) hb)
            have n3_ := Aside0.mk (Kd.V_elder' (by exact vU HL321_1.out) (Kd.N_base ho34) hb)
            have n4_ := Aside0.mk (Kd.V_elder' (by exact vU HO329.out) (Kd.N_base ho34) hb)
            have n5_ := Aside0.mk (Kd.V_elder' (by exact vU HL333_1.out) (Kd.N_base ho34) hb)
            have n6_ := Aside0.mk (Kd.V_elder' (by exact vU HO344.out) (Kd.N_base ho34) hb)
            have n7_ := Aside0.mk (Kd.N_elder' (by exact nU HO332.out) (Kd.N_base ho34) hb)
            have n8_ := Aside0.mk (Kd.N_lower ho34 (below_size (by exact wU HB.out)))
            have n9_ := Aside0.mk (below_step (by exact wU HB.out) hb)
            clear HO_6 HO_8 HL320_1 HL321_1 HO329 HL333_1 HO344 HO332 HB
            have HO_6 := n0_
            have HO_8 := n1_
            have HL320_1 := n2_
            have HL321_1 := n3_
            have HO329 := n4_
            have HL333_1 := n5_
            have HO344 := n6_
            have HO332 := n7_
            have HO336 := n8_
            have HB := n9_
            clear n0_ n1_ n2_ n3_ n4_ n5_ n6_ n7_ n8_ n9_ hb ho34
            refine hK.out _ _ ⟨HS0_, HS1_, HS2_⟩ (fun hHeld => ?_)
            clear hK K
            refine norm_ (a' := ?_) ?_ ?_
            rotate_left
            · show Act.put _ (some 58) _ = _
              simp only [pq19]
              rfl
            exact norm_ (by simp only [putAll, Act.put, List.setIfInBounds_toArray, List.set_cons_zero, List.set_cons_succ]) (hCont (v323, v331, v335) _ ⟨hHeld, (by exact vU (Kd.V_mono HL320_1.out (fun _ hk => ⟨hk.1.1.1, ⟨hk.1.2, ⟨hk.2, hk.1.1.2⟩⟩⟩))), (by exact vU (Kd.V_mono HL321_1.out (fun _ hk => ⟨hk.1.1.1, ⟨hk.1.2, ⟨hk.2, hk.1.1.2⟩⟩⟩))), (by exact vU (Kd.V_mono HL333_1.out (fun _ hk => ⟨hk.1.1.1, ⟨hk.1.2, ⟨hk.2, hk.1.1.2⟩⟩⟩))), (by exact vU (Kd.V_mono HO329.out (fun _ hk => ⟨hk.1.1, ⟨hk.1.2, hk.2⟩⟩))), (by exact nU HO332.out), (by exact nU (Kd.N_mono HO336.out (fun _ hk => ⟨hk.1, ⟨hk.2.2, hk.2.1⟩⟩))), (by exact vU (Kd.V_mono HO344.out (fun _ hk => ⟨hk.1.1, ⟨hk.1.2, hk.2⟩⟩))), (by exact vU (Kd.V_mono HO_6.out (fun _ hk => ⟨hk.1.1.1, ⟨hk.1.2, ⟨hk.2, hk.1.1.2⟩⟩⟩))), (by exact nU (Kd.N_mono HO_8.out (fun _ hk => ⟨hk.1.1, ⟨hk.1.2, hk.2⟩⟩))), (by exact wU HB.out)⟩)
          skip
          refine Kd.N_lit_step k36 _ 36 ?hg (N' := 58) ?hd (xs := ([(⟨(⟨(rd_T36 x6_1 x9_2).f0.f0, (rd_T36 x6_1 x9_2).f0.f1⟩ : S24), (rd_T36 x6_1 x9_2).f1⟩ : S36)] : List (S36))) (inner := [.int .i64 ((rd_T36 x6_1 x9_2).f0.f0), .slice A333_1 ((rd_T36 x6_1 x9_2).f0.f1).length c333_1, .int .i64 ((rd_T36 x6_1 x9_2).f1)]) (ok := (fun k_ => (P0_ k_ ∨ w.heap.size ≤ k_) ∧ some k_ ≠ (.slice (some ad321) x8_2.length co10 : Value).ownBlock ∧ some k_ ≠ (v323 : Value).ownBlock)) (okp := (fun k_ => (P0_ k_ ∨ w.heap.size ≤ k_) ∧ some k_ ≠ (.slice (some ad321) x8_2.length co10 : Value).ownBlock ∧ some k_ ≠ (v323 : Value).ownBlock)) ?hr ?hp (fun _ hk => hk) ((show ∀ k_, w30.heap.size ≤ k_ → (fun k_ => (P0_ k_ ∨ w.heap.size ≤ k_) ∧ some k_ ≠ (.slice (some ad321) x8_2.length co10 : Value).ownBlock ∧ some k_ ≠ (v323 : Value).ownBlock) k_ from fun k_ hk => ⟨(.inr (Nat.le_trans (below_size (by exact wU HB.out)) hk)), Kd.fresh' (Kd.N_lt (by exact nU HO_8.out)) k_ hk, Kd.fresh' (Kd.N_lt (by exact nU HO324.out)) k_ hk⟩) _ (Nat.le_refl _)) (Below.refl _ _) (Nat.le_refl _) (by simp) ?_; (case hd => rfl); (case hg => rfl); (case hr => first | (go_simp; done) | (go_simp; rfl)); (case hp => exact (Reps.c3 (show Kd.FK k36 _ _ (⟨(⟨(rd_T36 x6_1 x9_2).f0.f0, (rd_T36 x6_1 x9_2).f0.f1⟩ : S24), (rd_T36 x6_1 x9_2).f1⟩ : S36) [.int .i64 ((rd_T36 x6_1 x9_2).f0.f0), .slice A333_1 ((rd_T36 x6_1 x9_2).f0.f1).length c333_1, .int .i64 ((rd_T36 x6_1 x9_2).f1)] from (k36_mkF _ _ (⟨(⟨(rd_T36 x6_1 x9_2).f0.f0, (rd_T36 x6_1 x9_2).f0.f1⟩ : S24), (rd_T36 x6_1 x9_2).f1⟩ : S36) (Kd.V_reads' (Kd.V_mono (ok' := (fun k_ => (P0_ k_ ∨ w.heap.size ≤ k_) ∧ some k_ ≠ (.slice (some ad321) x8_2.length co10 : Value).ownBlock ∧ some k_ ≠ (v323 : Value).ownBlock)) (HL333_1.out) (fun k_ hk => ⟨hk.1.1, ⟨hk.1.2, hk.2⟩⟩))).2.1 (Kd.V_F (Kd.V_mono (ok' := (fun k_ => (P0_ k_ ∨ w.heap.size ≤ k_) ∧ some k_ ≠ (.slice (some ad321) x8_2.length co10 : Value).ownBlock ∧ some k_ ≠ (v323 : Value).ownBlock)) (HL333_1.out) (fun k_ hk => ⟨hk.1.1, ⟨hk.1.2, hk.2⟩⟩))))) (Reps.none _ _)))
          intro v335 w32 ho33 hb hg_ hnew_
          have HS0_ := (hb.cell (World.block_lt_of_cell? _ _ (hHeld.1))).trans (hHeld.1)
          have HS1_ := (hb.cell (World.block_lt_of_cell? _ _ (hHeld.2.1))).trans (hHeld.2.1)
          have HS2_ := (hb.cell (World.block_lt_of_cell? _ _ (hHeld.2.2))).trans (hHeld.2.2)
          clear hg_ hnew_
          (first | rw [← Ny334.out] at ho33 | (simp only [Int.reduceToNat] at ho33; rw [← Ny334.out] at ho33))
          have n0_ := Aside0.mk (Kd.V_elder' (by exact vU HO_6.out) (Kd.N_base ho33) hb)
          have n1_ := Aside0.mk (Kd.N_elder' (by exact nU HO_8.out) (Kd.N_base ho33) hb)
          have n2_ := Aside0.mk (Kd.V_elder' (by exact vU HL320_1.out) (Kd.N_base ho33) hb)
          have n3_ := Aside0.mk (Kd.V_elder' (by exact vU HL321_1.out) (Kd.N_base ho33) hb)
          have n4_ := Aside0.mk (Kd.V_elder' (by exact vU HO329.out) (Kd.N_base ho33) hb)
          have n5_ := Aside0.mk (Kd.V_elder' (by exact vU HL333_1.out) (Kd.N_base ho33) hb)
          have n6_ := Aside0.mk (Kd.V_elder' (by exact vU HO344.out) (Kd.N_base ho33) hb)
          have n7_ := Aside0.mk (Kd.N_elder' (by exact nU HO324.out) (Kd.N_base ho33) hb)
          have n8_ := Aside0.mk (Kd.N_lower ho33 (below_size (by exact wU HB.out)))
          have n9_ := Aside0.mk (Kd.C_below (by repeat (first | (with_reducible exact HR320_1.out) | (with_reducible refine Kd.C_alloc ?_ _) | (with_reducible refine Kd.C_drewN ?_ _) | (with_reducible refine Kd.C_drew ?_) | exact HR320_1.out)) hb)
          have n10_ := Aside0.mk (Kd.C_below (by repeat (first | (with_reducible exact HR321_1.out) | (with_reducible refine Kd.C_alloc ?_ _) | (with_reducible refine Kd.C_drewN ?_ _) | (with_reducible refine Kd.C_drew ?_) | exact HR321_1.out)) hb)
          have n11_ := Aside0.mk (Kd.C_below (by repeat (first | (with_reducible exact HR333_1.out) | (with_reducible refine Kd.C_alloc ?_ _) | (with_reducible refine Kd.C_drewN ?_ _) | (with_reducible refine Kd.C_drew ?_) | exact HR333_1.out)) hb)
          have n12_ := Aside0.mk (below_step (by exact wU HB.out) hb)
          clear HO_6 HO_8 HL320_1 HL321_1 HO329 HL333_1 HO344 HO324 HR320_1 HR321_1 HR333_1 HB
          have HO_6 := n0_
          have HO_8 := n1_
          have HL320_1 := n2_
          have HL321_1 := n3_
          have HO329 := n4_
          have HL333_1 := n5_
          have HO344 := n6_
          have HO324 := n7_
          have HO336 := n8_
          have HR320_1 := n9_
          have HR321_1 := n10_
          have HR333_1 := n11_
          have HB := n12_
          clear n0_ n1_ n2_ n3_ n4_ n5_ n6_ n7_ n8_ n9_ n10_ n11_ n12_ hb ho33
          refine hK.out _ _ ⟨HS0_, HS1_, HS2_⟩ (fun hHeld => ?_)
          clear hK K
          refine norm_ (a' := ?_) ?_ ?_
          rotate_left
          · show Act.put _ (some 58) _ = _
            simp only [pq19]
            rfl
          refine one_ (i := 4) (N := some 53) #[Y19,Y19,Y19,Y19,Y19,Y19,Y19,Y19,Y19,Y19,N19,Y19,Y19,Y19,N19,N19] rfl rfl (one_of HT_.out (by kernel_rfl)) (by decide) (fun K hK => ?_)
          refine Kd.N_append_rows_step k36 (w0 := w) w.heap.size (by rfl) (.tmp 49) (.tmp 52) 28 36 (.agg #[(.int .i64 0), (.slice none 0 0), (.int .i64 0)]) 40 rfl Tryd.underlying28 info36 rfl (by decide) (by omega) v323 y322 y325 _ _ _ (fun k_ => (P0_ k_ ∨ w.heap.size ≤ k_) ∧ some k_ ≠ (v335 : Value).ownBlock) (fun k_ => ((fun k_ => (P0_ k_ ∨ w.heap.size ≤ k_) ∧ some k_ ≠ (v335 : Value).ownBlock)) k_ ∧ some k_ ≠ (v323 : Value).ownBlock) rfl rfl ?aO ?aR (fun _ hk => hk) ?aF ?aB ?aS ?aL ?_
          (case aR => exact (by skip; exact Kd.V_F (Kd.V_mono (ok' := (fun k_ => ((fun k_ => (P0_ k_ ∨ w.heap.size ≤ k_) ∧ some k_ ≠ (v335 : Value).ownBlock)) k_ ∧ some k_ ≠ (v323 : Value).ownBlock)) (HO329.out) (fun k_ hk => ⟨⟨hk.1.1, hk.2⟩, hk.1.2⟩))))
          (case aB => exact (by exact wU HB.out))
          (case aF => exact (fun k_ hk => ⟨(.inr (Nat.le_trans (below_size (by exact wU HB.out)) hk)), Kd.fresh' (Kd.N_lt (by exact nU HO336.out)) k_ hk⟩))
          (case aO => exact (by exact nU (Kd.N_mono HO324.out (fun _ hk => ⟨hk.1.1, hk.2⟩))))
          (case aS => exact (below_size (by exact wU HB.out)))
          (case aL => have := LMc21.out; omega)
          intro v331 w34 ho hb hg hat
          have HS0_ := cgz hg (hHeld.1) (by show some (Addr.add _ _).block ≠ _; rw [add_block]; have h_ := V_ok HO_6.out (by decide) (vpos ‹_› ‹_›); first | exact h_.2 | exact h_.1.2 | exact h_.1.1.2 | exact h_.2.1 | exact h_.2.2)
          have HS1_ := cgz hg (hHeld.2.1) (by show some (Addr.add _ _).block ≠ _; rw [add_block]; have h_ := V_ok HO_6.out (by decide) (vpos ‹_› ‹_›); first | exact h_.2 | exact h_.1.2 | exact h_.1.1.2 | exact h_.2.1 | exact h_.2.2)
          have HS2_ := cgz hg (hHeld.2.2) (by show some (Addr.add _ _).block ≠ _; rw [add_block]; have h_ := V_ok HO_6.out (by decide) (vpos ‹_› ‹_›); first | exact h_.2 | exact h_.1.2 | exact h_.1.1.2 | exact h_.2.1 | exact h_.2.2)
          rw [← Ny330.out] at ho
          have n0_ := Aside0.mk (Kd.V_afterv (ok := (fun k_ => (P0_ k_ ∨ w.heap.size ≤ k_) ∧ some k_ ≠ (.slice (some ad321) x8_2.length co10 : Value).ownBlock ∧ some k_ ≠ (v335 : Value).ownBlock)) (by exact vU (Kd.V_mono HO_6.out (fun _ hk => ⟨⟨hk.1.1.1, ⟨hk.1.1.2, hk.2⟩⟩, hk.1.2⟩))) hg hat)
          have n1_ := Aside0.mk (Kd.N_afterv (ok := (fun k_ => (P0_ k_ ∨ w.heap.size ≤ k_) ∧ some k_ ≠ (v335 : Value).ownBlock)) (by exact nU (Kd.N_mono HO_8.out (fun _ hk => ⟨⟨hk.1.1, hk.2⟩, hk.1.2⟩))) hg hat)
          have n2_ := Aside0.mk (Kd.V_afterv (ok := (fun k_ => (P0_ k_ ∨ w.heap.size ≤ k_) ∧ some k_ ≠ (.slice (some ad321) x8_2.length co10 : Value).ownBlock ∧ some k_ ≠ (v335 : Value).ownBlock)) (by exact vU (Kd.V_mono HL320_1.out (fun _ hk => ⟨⟨hk.1.1.1, ⟨hk.1.1.2, hk.2⟩⟩, hk.1.2⟩))) hg hat)
          have n3_ := Aside0.mk (Kd.V_afterv (ok := (fun k_ => (P0_ k_ ∨ w.heap.size ≤ k_) ∧ some k_ ≠ (.slice (some ad321) x8_2.length co10 : Value).ownBlock ∧ some k_ ≠ (v335 : Value).ownBlock)) (by exact vU (Kd.V_mono HL321_1.out (fun _ hk => ⟨⟨hk.1.1.1, ⟨hk.1.1.2, hk.2⟩⟩, hk.1.2⟩))) hg hat)
          have n4_ := Aside0.mk (Kd.V_afterv (ok := (fun k_ => (P0_ k_ ∨ w.heap.size ≤ k_) ∧ some k_ ≠ (v335 : Value).ownBlock)) (by exact vU (Kd.V_mono HO329.out (fun _ hk => ⟨⟨hk.1.1, hk.2⟩, hk.1.2⟩))) hg hat)
          have n5_ := Aside0.mk (Kd.V_afterv (ok := (fun k_ => (P0_ k_ ∨ w.heap.size ≤ k_) ∧ some k_ ≠ (.slice (some ad321) x8_2.length co10 : Value).ownBlock ∧ some k_ ≠ (v335 : Value).ownBlock)) (by exact vU (Kd.V_mono HL333_1.out (fun _ hk => ⟨⟨hk.1.1.1, ⟨hk.1.1.2, hk.2⟩⟩, hk.1.2⟩))) hg hat)
          have n6_ := Aside0.mk (Kd.V_afterv (ok := (fun k_ => (P0_ k_ ∨ w.heap.size ≤ k_) ∧ some k_ ≠ (v335 : Value).ownBlock)) (by exact vU (Kd.V_mono HO344.out (fun _ hk => ⟨⟨hk.1.1, hk.2⟩, hk.1.2⟩))) hg hat)
          have n7_ := Aside0.mk (Kd.N_afterv (ok := (fun k_ => (P0_ k_ ∨ w.heap.size ≤ k_) ∧ some k_ ≠ (.slice (some ad321) x8_2.length co10 : Value).ownBlock)) (by exact nU (Kd.N_mono HO336.out (fun _ hk => ⟨⟨hk.1, hk.2.1⟩, hk.2.2⟩))) hg hat)
          have n8_ := Aside0.mk (hb)
          have n9_ := Aside0.mk (ho)
          clear HO_6 HO_8 HL320_1 HL321_1 HO329 HL333_1 HO344 HO336 HB HO324
          have HO_6 := n0_
          have HO_8 := n1_
          have HL320_1 := n2_
          have HL321_1 := n3_
          have HO329 := n4_
          have HL333_1 := n5_
          have HO344 := n6_
          have HO336 := n7_
          have HB := n8_
          have HO332 := n9_
          clear n0_ n1_ n2_ n3_ n4_ n5_ n6_ n7_ n8_ n9_ ho hb hg hat
          refine hK.out _ _ ⟨HS0_, HS1_, HS2_⟩ (fun hHeld => ?_)
          clear hK K
          refine norm_ (a' := ?_) ?_ ?_
          rotate_left
          · show Act.put _ (some 53) _ = _
            simp only [pq19]
            rfl
          exact norm_ (by simp only [putAll, Act.put, List.setIfInBounds_toArray, List.set_cons_zero, List.set_cons_succ]) (hCont (v323, v331, v335) _ ⟨hHeld, (by exact vU (Kd.V_mono HL320_1.out (fun _ hk => ⟨hk.1.1, ⟨hk.2, ⟨hk.1.2.2, hk.1.2.1⟩⟩⟩))), (by exact vU (Kd.V_mono HL321_1.out (fun _ hk => ⟨hk.1.1, ⟨hk.2, ⟨hk.1.2.2, hk.1.2.1⟩⟩⟩))), (by exact vU (Kd.V_mono HL333_1.out (fun _ hk => ⟨hk.1.1, ⟨hk.2, ⟨hk.1.2.2, hk.1.2.1⟩⟩⟩))), (by exact vU (Kd.V_mono HO329.out (fun _ hk => ⟨hk.1.1, ⟨hk.2, hk.1.2⟩⟩))), (by exact nU HO332.out), (by exact nU (Kd.N_mono HO336.out (fun _ hk => ⟨hk.1.1, ⟨hk.2, hk.1.2⟩⟩))), (by exact vU (Kd.V_mono HO344.out (fun _ hk => ⟨hk.1.1, ⟨hk.2, hk.1.2⟩⟩))), (by exact vU (Kd.V_mono HO_6.out (fun _ hk => ⟨hk.1.1, ⟨hk.2, ⟨hk.1.2.2, hk.1.2.1⟩⟩⟩))), (by exact nU (Kd.N_mono HO_8.out (fun _ hk => ⟨hk.1.1, ⟨hk.2, hk.1.2⟩⟩))), (by exact wU HB.out)⟩)
        rintro ⟨v323, v331, v335⟩ w35 ⟨hS_, h0_, h1_, h2_, h3_, h4_, h5_, h6_, h7_, h8_, h9_⟩
        have n0_ : Aside0 (Kd.V (Kd.int .i64) 3 w35 w.heap.size (fun k_ => (P0_ k_ ∨ w.heap.size ≤ k_) ∧ some k_ ≠ (v331 : Value).ownBlock ∧ some k_ ≠ (v335 : Value).ownBlock ∧ some k_ ≠ (.slice (some ad321) x8_2.length co10 : Value).ownBlock) (.slice A320_1 ((rd_T36 x6_1 x9_2).f0.f1).length c320_1) ((rd_T36 x6_1 x9_2).f0.f1)) := ⟨h0_⟩
        have n1_ : Aside0 (Kd.V (Kd.int .i64) 3 w35 w.heap.size (fun k_ => (P0_ k_ ∨ w.heap.size ≤ k_) ∧ some k_ ≠ (v331 : Value).ownBlock ∧ some k_ ≠ (v335 : Value).ownBlock ∧ some k_ ≠ (.slice (some ad321) x8_2.length co10 : Value).ownBlock) (.slice A321_1 ((rd_T36 x8_2 (ji14)).f0.f1).length c321_1) ((rd_T36 x8_2 (ji14)).f0.f1)) := ⟨h1_⟩
        have n2_ : Aside0 (Kd.V (Kd.int .i64) 3 w35 w.heap.size (fun k_ => (P0_ k_ ∨ w.heap.size ≤ k_) ∧ some k_ ≠ (v331 : Value).ownBlock ∧ some k_ ≠ (v335 : Value).ownBlock ∧ some k_ ≠ (.slice (some ad321) x8_2.length co10 : Value).ownBlock) (.slice A333_1 ((rd_T36 x6_1 x9_2).f0.f1).length c333_1) ((rd_T36 x6_1 x9_2).f0.f1)) := ⟨h2_⟩
        have n3_ : Aside0 (Kd.V k36 36 w35 w.heap.size (fun k_ => (P0_ k_ ∨ w.heap.size ≤ k_) ∧ some k_ ≠ (v331 : Value).ownBlock ∧ some k_ ≠ (v335 : Value).ownBlock) (.slice (some ad321) y325.length co10) y325) := ⟨h3_⟩
        have n4_ : Aside0 (Kd.N k36 36 w35 w.heap.size (fun k_ => (P0_ k_ ∨ w.heap.size ≤ k_) ∧ some k_ ≠ (v335 : Value).ownBlock) v331 y330) := ⟨h4_⟩
        have n5_ : Aside0 (Kd.N k36 36 w35 w.heap.size (fun k_ => (P0_ k_ ∨ w.heap.size ≤ k_) ∧ some k_ ≠ (v331 : Value).ownBlock ∧ some k_ ≠ (.slice (some ad321) x8_2.length co10 : Value).ownBlock) v335 y334) := ⟨h5_⟩
        have n6_ : Aside0 (Kd.V k36 36 w35 w.heap.size (fun k_ => (P0_ k_ ∨ w.heap.size ≤ k_) ∧ some k_ ≠ (v331 : Value).ownBlock ∧ some k_ ≠ (v335 : Value).ownBlock) (.slice A29 y340.length c29) y340) := ⟨h6_⟩
        have n7_ : Aside0 (Kd.V k36 36 w35 w.heap.size (fun k_ => (P0_ k_ ∨ w.heap.size ≤ k_) ∧ some k_ ≠ (v331 : Value).ownBlock ∧ some k_ ≠ (v335 : Value).ownBlock ∧ some k_ ≠ (.slice (some ad321) x8_2.length co10 : Value).ownBlock) (.slice (some ad320) x6_1.length co9) x6_1) := ⟨h7_⟩
        have n8_ : Aside0 (Kd.N k36 36 w35 w.heap.size (fun k_ => (P0_ k_ ∨ w.heap.size ≤ k_) ∧ some k_ ≠ (v331 : Value).ownBlock ∧ some k_ ≠ (v335 : Value).ownBlock) (.slice (some ad321) x8_2.length co10) x8_2) := ⟨h8_⟩
        have n9_ : Aside0 (Below w.heap.size w w35) := ⟨h9_⟩
        clear HO_6 HO_8 HL320_1 HL321_1 HR320_1 HR321_1 HB h0_ h1_ h2_ h3_ h4_ h5_ h6_ h7_ h8_ h9_
        have HL320_1 := n0_
        have HL321_1 := n1_
        have HL333_1 := n2_
        have HO329 := n3_
        have HO332 := n4_
        have HO336 := n5_
        have HO344 := n6_
        have HO_6 := n7_
        have HO_8 := n8_
        have HB := n9_
        clear n0_ n1_ n2_ n3_ n4_ n5_ n6_ n7_ n8_ n9_
        have hHeld : w35.cell? (ad320.add ((x9_2).toNat * 3)) = some (.int .i64 ((rd_T36 x6_1 x9_2).f0.f0)) ∧ w35.cell? ⟨(ad320.add ((x9_2).toNat * 3)).block, (ad320.add ((x9_2).toNat * 3)).off + 1, none⟩ = some (.slice A333_1 ((rd_T36 x6_1 x9_2).f0.f1).length c333_1) ∧ w35.cell? ⟨(ad320.add ((x9_2).toNat * 3)).block, (ad320.add ((x9_2).toNat * 3)).off + 2, none⟩ = some (.int .i64 ((rd_T36 x6_1 x9_2).f1)) := hS_
        obtain ⟨Ao37, co37, eo37⟩ := Kd.N_slice HO336.out
        (first | subst eo37 | (injection eo37 with f1_ f2_ f3_; have f4_ := f1_.symm; have f5_ := f3_.symm; clear f1_ f2_ f3_; subst f4_; subst f5_))
        refine norm_ (a' := ?_) ?_ ?_
        rotate_left
        · simp only [putAll, Act.put, List.setIfInBounds_toArray, List.set_cons_zero, List.set_cons_succ]
          rfl
        refine one_ (i := 10) (N := some 59) #[Y19,Y19,Y19,Y19,Y19,Y19,Y19,Y19,Y19,Y19,Y19,Y19,Y19,Y19,N19,N19] rfl rfl (one_of HT_.out (by kernel_rfl)) (by decide) (fun K hK => ?_)
        refine Kd.N_append_rows_step k36 (w0 := w) w.heap.size (by rfl) (.tmp 53) (.tmp 58) 28 36 (.agg #[(.int .i64 0), (.slice none 0 0), (.int .i64 0)]) 40 rfl Tryd.underlying28 info36 rfl (by decide) (by omega) v331 y330 y334 _ _ _ (fun k_ => (P0_ k_ ∨ w.heap.size ≤ k_)) (fun k_ => ((fun k_ => (P0_ k_ ∨ w.heap.size ≤ k_))) k_ ∧ some k_ ≠ (v331 : Value).ownBlock) rfl rfl ?aO ?aR (fun _ hk => hk) ?aF ?aB ?aS ?aL ?_
        (case aR => exact (by skip; exact Kd.N_F (Kd.N_mono (ok' := (fun k_ => ((fun k_ => (P0_ k_ ∨ w.heap.size ≤ k_))) k_ ∧ some k_ ≠ (v331 : Value).ownBlock)) (HO336.out) (fun k_ hk => ⟨hk.1, hk.2.1⟩))))
        (case aB => exact (by exact wU HB.out))
        (case aF => exact (fun k_ hk => (.inr (Nat.le_trans (below_size (by exact wU HB.out)) hk))))
        (case aO => exact (by exact nU (Kd.N_mono HO332.out (fun _ hk => hk.1))))
        (case aS => exact (below_size (by exact wU HB.out)))
        (case aL => have := LMc22.out; omega)
        intro v338 w36 ho hb hg hat
        have HS0_ := cgz hg (hHeld.1) (by show some (Addr.add _ _).block ≠ _; rw [add_block]; have h_ := V_ok HO_6.out (by decide) (vpos ‹_› ‹_›); first | exact h_.2 | exact h_.1.2 | exact h_.1.1.2 | exact h_.2.1 | exact h_.2.2)
        have HS1_ := cgz hg (hHeld.2.1) (by show some (Addr.add _ _).block ≠ _; rw [add_block]; have h_ := V_ok HO_6.out (by decide) (vpos ‹_› ‹_›); first | exact h_.2 | exact h_.1.2 | exact h_.1.1.2 | exact h_.2.1 | exact h_.2.2)
        have HS2_ := cgz hg (hHeld.2.2) (by show some (Addr.add _ _).block ≠ _; rw [add_block]; have h_ := V_ok HO_6.out (by decide) (vpos ‹_› ‹_›); first | exact h_.2 | exact h_.1.2 | exact h_.1.1.2 | exact h_.2.1 | exact h_.2.2)
        rw [← Ny337.out] at ho
        have n0_ := Aside0.mk (Kd.V_afterv (ok := (fun k_ => (P0_ k_ ∨ w.heap.size ≤ k_) ∧ some k_ ≠ (.slice (some ad321) x8_2.length co10 : Value).ownBlock ∧ some k_ ≠ (.slice Ao37 y334.length co37 : Value).ownBlock)) (by exact vU (Kd.V_mono HO_6.out (fun _ hk => ⟨⟨hk.1, ⟨hk.2.2.2, hk.2.2.1⟩⟩, hk.2.1⟩))) hg hat)
        have n1_ := Aside0.mk (Kd.N_afterv (ok := (fun k_ => (P0_ k_ ∨ w.heap.size ≤ k_) ∧ some k_ ≠ (.slice Ao37 y334.length co37 : Value).ownBlock)) (by exact nU (Kd.N_mono HO_8.out (fun _ hk => ⟨⟨hk.1, hk.2.2⟩, hk.2.1⟩))) hg hat)
        have n2_ := Aside0.mk (Kd.V_afterv (ok := (fun k_ => (P0_ k_ ∨ w.heap.size ≤ k_) ∧ some k_ ≠ (.slice (some ad321) x8_2.length co10 : Value).ownBlock ∧ some k_ ≠ (.slice Ao37 y334.length co37 : Value).ownBlock)) (by exact vU (Kd.V_mono HL320_1.out (fun _ hk => ⟨⟨hk.1, ⟨hk.2.2.2, hk.2.2.1⟩⟩, hk.2.1⟩))) hg hat)
        have n3_ := Aside0.mk (Kd.V_afterv (ok := (fun k_ => (P0_ k_ ∨ w.heap.size ≤ k_) ∧ some k_ ≠ (.slice (some ad321) x8_2.length co10 : Value).ownBlock ∧ some k_ ≠ (.slice Ao37 y334.length co37 : Value).ownBlock)) (by exact vU (Kd.V_mono HL321_1.out (fun _ hk => ⟨⟨hk.1, ⟨hk.2.2.2, hk.2.2.1⟩⟩, hk.2.1⟩))) hg hat)
        have n4_ := Aside0.mk (Kd.V_afterv (ok := (fun k_ => (P0_ k_ ∨ w.heap.size ≤ k_) ∧ some k_ ≠ (.slice Ao37 y334.length co37 : Value).ownBlock)) (by exact vU (Kd.V_mono HO329.out (fun _ hk => ⟨⟨hk.1, hk.2.2⟩, hk.2.1⟩))) hg hat)
        have n5_ := Aside0.mk (Kd.V_afterv (ok := (fun k_ => (P0_ k_ ∨ w.heap.size ≤ k_) ∧ some k_ ≠ (.slice (some ad321) x8_2.length co10 : Value).ownBlock ∧ some k_ ≠ (.slice Ao37 y334.length co37 : Value).ownBlock)) (by exact vU (Kd.V_mono HL333_1.out (fun _ hk => ⟨⟨hk.1, ⟨hk.2.2.2, hk.2.2.1⟩⟩, hk.2.1⟩))) hg hat)
        have n6_ := Aside0.mk (Kd.V_afterv (ok := (fun k_ => (P0_ k_ ∨ w.heap.size ≤ k_) ∧ some k_ ≠ (.slice Ao37 y334.length co37 : Value).ownBlock)) (by exact vU (Kd.V_mono HO344.out (fun _ hk => ⟨⟨hk.1, hk.2.2⟩, hk.2.1⟩))) hg hat)
        have n7_ := Aside0.mk (Kd.N_afterv (ok := (fun k_ => (P0_ k_ ∨ w.heap.size ≤ k_) ∧ some k_ ≠ (.slice (some ad321) x8_2.length co10 : Value).ownBlock)) (by exact nU (Kd.N_mono HO336.out (fun _ hk => ⟨⟨hk.1, hk.2.2⟩, hk.2.1⟩))) hg hat)
        have n8_ := Aside0.mk (hb)
        have n9_ := Aside0.mk (ho)
        clear HO_6 HO_8 HL320_1 HL321_1 HO329 HL333_1 HO344 HO336 HB HO332
        have HO_6 := n0_
        have HO_8 := n1_
        have HL320_1 := n2_
        have HL321_1 := n3_
        have HO329 := n4_
        have HL333_1 := n5_
        have HO344 := n6_
        have HO336 := n7_
        have HB := n8_
        have HO339 := n9_
        clear n0_ n1_ n2_ n3_ n4_ n5_ n6_ n7_ n8_ n9_ ho hb hg hat
        refine hK.out _ _ ⟨HS0_, HS1_, HS2_⟩ (fun hHeld => ?_)
        clear hK K
        refine norm_ (a' := ?_) ?_ ?_
        rotate_left
        · show Act.put _ (some 59) _ = _
          simp only [pq19]
          rfl
        refine one_ (i := 14) (N := some 63) #[Y19,Y19,Y19,Y19,Y19,Y19,Y19,Y19,Y19,Y19,Y19,Y19,Y19,Y19,Y19,N19] rfl rfl (one_of HT_.out (by kernel_rfl)) (by decide) (fun K hK => ?_)
        refine Kd.N_append_rows_step k36 (w0 := w) w.heap.size (by rfl) (.tmp 59) (.tmp 62) 28 36 (.agg #[(.int .i64 0), (.slice none 0 0), (.int .i64 0)]) 40 rfl Tryd.underlying28 info36 rfl (by decide) (by omega) v338 y337 y340 _ _ _ (fun k_ => (P0_ k_ ∨ w.heap.size ≤ k_)) (fun k_ => ((fun k_ => (P0_ k_ ∨ w.heap.size ≤ k_))) k_ ∧ some k_ ≠ (v338 : Value).ownBlock) rfl rfl ?aO ?aR (fun _ hk => hk) ?aF ?aB ?aS ?aL ?_
        (case aR => exact (by skip; exact Kd.V_F (Kd.V_mono (ok' := (fun k_ => ((fun k_ => (P0_ k_ ∨ w.heap.size ≤ k_))) k_ ∧ some k_ ≠ (v338 : Value).ownBlock)) (HO344.out) (fun k_ hk => ⟨hk.1.1, hk.2⟩))))
        (case aB => exact (by exact wU HB.out))
        (case aF => exact (fun k_ hk => (.inr (Nat.le_trans (below_size (by exact wU HB.out)) hk))))
        (case aO => exact (by exact nU HO339.out))
        (case aS => exact (below_size (by exact wU HB.out)))
        (case aL => have := LMc25.out; omega)
        intro v346 w38 ho hb hg hat
        have HS0_ := cgz hg (hHeld.1) (by show some (Addr.add _ _).block ≠ _; rw [add_block]; have h_ := V_ok HO_6.out (by decide) (vpos ‹_› ‹_›); first | exact h_.2 | exact h_.1.2 | exact h_.1.1.2 | exact h_.2.1 | exact h_.2.2)
        have HS1_ := cgz hg (hHeld.2.1) (by show some (Addr.add _ _).block ≠ _; rw [add_block]; have h_ := V_ok HO_6.out (by decide) (vpos ‹_› ‹_›); first | exact h_.2 | exact h_.1.2 | exact h_.1.1.2 | exact h_.2.1 | exact h_.2.2)
        have HS2_ := cgz hg (hHeld.2.2) (by show some (Addr.add _ _).block ≠ _; rw [add_block]; have h_ := V_ok HO_6.out (by decide) (vpos ‹_› ‹_›); first | exact h_.2 | exact h_.1.2 | exact h_.1.1.2 | exact h_.2.1 | exact h_.2.2)
        rw [← Ny345.out] at ho
        have n0_ := Aside0.mk (Kd.V_afterv (ok := (fun k_ => (P0_ k_ ∨ w.heap.size ≤ k_) ∧ some k_ ≠ (.slice (some ad321) x8_2.length co10 : Value).ownBlock ∧ some k_ ≠ (.slice Ao37 y334.length co37 : Value).ownBlock)) (by exact vU HO_6.out) hg hat)
        have n1_ := Aside0.mk (Kd.N_afterv (ok := (fun k_ => (P0_ k_ ∨ w.heap.size ≤ k_) ∧ some k_ ≠ (.slice Ao37 y334.length co37 : Value).ownBlock)) (by exact nU HO_8.out) hg hat)
        have n2_ := Aside0.mk (Kd.V_afterv (ok := (fun k_ => (P0_ k_ ∨ w.heap.size ≤ k_) ∧ some k_ ≠ (.slice (some ad321) x8_2.length co10 : Value).ownBlock ∧ some k_ ≠ (.slice Ao37 y334.length co37 : Value).ownBlock)) (by exact vU HL320_1.out) hg hat)
        have n3_ := Aside0.mk (Kd.V_afterv (ok := (fun k_ => (P0_ k_ ∨ w.heap.size ≤ k_) ∧ some k_ ≠ (.slice (some ad321) x8_2.length co10 : Value).ownBlock ∧ some k_ ≠ (.slice Ao37 y334.length co37 : Value).ownBlock)) (by exact vU HL321_1.out) hg hat)
        have n4_ := Aside0.mk (Kd.V_afterv (ok := (fun k_ => (P0_ k_ ∨ w.heap.size ≤ k_) ∧ some k_ ≠ (.slice Ao37 y334.length co37 : Value).ownBlock)) (by exact vU HO329.out) hg hat)
        have n5_ := Aside0.mk (Kd.V_afterv (ok := (fun k_ => (P0_ k_ ∨ w.heap.size ≤ k_) ∧ some k_ ≠ (.slice (some ad321) x8_2.length co10 : Value).ownBlock ∧ some k_ ≠ (.slice Ao37 y334.length co37 : Value).ownBlock)) (by exact vU HL333_1.out) hg hat)
        have n6_ := Aside0.mk (Kd.V_afterv (ok := (fun k_ => (P0_ k_ ∨ w.heap.size ≤ k_) ∧ some k_ ≠ (.slice Ao37 y334.length co37 : Value).ownBlock)) (by exact vU HO344.out) hg hat)
        have n7_ := Aside0.mk (Kd.N_afterv (ok := (fun k_ => (P0_ k_ ∨ w.heap.size ≤ k_) ∧ some k_ ≠ (.slice (some ad321) x8_2.length co10 : Value).ownBlock)) (by exact nU HO336.out) hg hat)
        have n8_ := Aside0.mk (hb)
        have n9_ := Aside0.mk (ho)
        clear HO_6 HO_8 HL320_1 HL321_1 HO329 HL333_1 HO344 HO336 HB HO339
        have HO_6 := n0_
        have HO_8 := n1_
        have HL320_1 := n2_
        have HL321_1 := n3_
        have HO329 := n4_
        have HL333_1 := n5_
        have HO344 := n6_
        have HO336 := n7_
        have HB := n8_
        have HO347 := n9_
        clear n0_ n1_ n2_ n3_ n4_ n5_ n6_ n7_ n8_ n9_ ho hb hg hat
        refine hK.out _ _ ⟨HS0_, HS1_, HS2_⟩ (fun hHeld => ?_)
        clear hK K
        refine norm_ (a' := ?_) ?_ ?_
        rotate_left
        · show Act.put _ (some 63) _ = _
          simp only [pq19]
          rfl
        refine pure_ (i := 15) (N := some 8) (v := ?_) (a' := ?_) #[Y19,Y19,Y19,Y19,Y19,Y19,Y19,Y19,Y19,Y19,Y19,Y19,Y19,Y19,Y19,Y19] rfl rfl (any_of HT_.out (by kernel_rfl)) (fun _ _ _ h => h) (Or.inl ⟨by rfl, ?_⟩) ?_ ?_; rotate_left; (intro w'; go_simp; with_reducible rfl); rotate_left; (simp only [pq19]; rfl)
        refine done_ (done_of HT_.out (by kernel_rfl)) ?_
        try go_wp2
        go_roundg k3
        case measure => have := HK1.out; have := HK2.out; have := HK3.out; omega
        case rel => exact ⟨(y345), (wrap64 (x9_2 + 1)), (by first | rfl | (simp; done) | (simp [*]; done)), H', ⟨by have := HK1.out; have := HK2.out; have := HK3.out; omega⟩, ⟨by exact vU (Kd.V_mono HO_6.out (fun _ hk => ⟨hk.1.1, hk.2⟩))⟩, ⟨by exact nU HO347.out⟩, ⟨by exact wU HB.out⟩⟩
end Go.Proofs.YtlgndfplikhflaaDoor.G
