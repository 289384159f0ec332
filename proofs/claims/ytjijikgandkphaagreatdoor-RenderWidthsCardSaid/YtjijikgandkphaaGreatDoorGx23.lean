import Derived.Test.YtjijikgandkphaaGreatDoorGx0
import Derived.Test.YtjijikgandkphaaGreatDoorGx22
namespace Go.Proofs.YtjijikgandkphaaGreatDoor.G
open Go.RowKit Go.Proofs.YtjijikgandkphaaGreatDoorW.PrintWords Go.Proofs.YtjijikgandkphaaGreatDoorW.PrintLast Go.Proofs.YtjijikgandkphaaGreatDoorW.PrintMore Go.Proofs.YtjijikgandkphaaGreatDoorW.VWords Go.Proofs.YtjijikgandkphaaGreatDoorW.Tab
attribute [local go_sem] max2_int min2_int max_two min_two max_three min_three max_four min_four
set_option linter.unusedVariables false
set_option linter.unusedSimpArgs false
mutual
def interlocutorref3_next.j0 : Nat → ByteArray → Int → Bool → Option (Int × Int)
  | 0, _, _, _ => none
  | k + 1, x0, x4, x22 => if x22 = true then (some (65533, 1)) else (if 0 < (x0.size : Int) then (if 0 ≤ (IntKind.u64.wrap (wrap64 (x4 + 1))) then (interlocutorref3_next.l0 k x0 x4 (Go.bits .and .i64 (wrap64 (bt x0 0)) (shr .i64 255 (IntKind.u64.wrap (wrap64 (x4 + 1))))) 1) else (none)) else (none))
def interlocutorref3_next.l0 : Nat → ByteArray → Int → Int → Int → Option (Int × Int)
  | 0, _, _, _, _ => none
  | k + 1, x0, x4, x5, x6 => if x6 < x4 then (if 0 ≤ x6 then (if x6 < (x0.size : Int) then (if (bt x0 x6) < 128 then (some (65533, 1)) else (if (bt x0 x6) > 191 then (some (65533, 1)) else (interlocutorref3_next.l0 k x0 x4 (Go.bits .or .i64 (wrap64 (x5 * 64)) (Go.bits .and .i64 (wrap64 (bt x0 x6)) 63)) (wrap64 (x6 + 1))))) else (none)) else (none)) else (if x4 = 3 then (if x5 < 2048 then (some (65533, 1)) else ((interlocutorref3_in.f x5 55296 57343).bind fun t242 => (if t242 = true then (some (65533, 1)) else (if x4 = 4 then (if x5 < 65536 then (some (65533, 1)) else (if x5 > 1114111 then (some (65533, 1)) else (some (x5, x4)))) else (some (x5, x4)))))) else (if x4 = 4 then (if x5 < 65536 then (some (65533, 1)) else (if x5 > 1114111 then (some (65533, 1)) else (some (x5, x4)))) else (some (x5, x4))))
end
def interlocutorref3_next.f (k : Nat) (a0 : ByteArray) : Option (Int × Int) := if 0 < (a0.size : Int) then ((interlocutorref3_size.f k (bt a0 0)).bind fun t241 => (if t241 = 1 then (some (wrap64 (bt a0 0), 1)) else (if t241 = 0 then (interlocutorref3_next.j0 k a0 t241 true) else (interlocutorref3_next.j0 k a0 t241 (decide ((a0.size : Int) < t241)))))) else (none)
theorem interlocutorref3_next.mono_l : ∀ k, (∀ y0 y1 y2, LeO (interlocutorref3_next.j0 k y0 y1 y2) (interlocutorref3_next.j0 (k + 1) y0 y1 y2)) ∧ (∀ y0 y1 y2 y3, LeO (interlocutorref3_next.l0 k y0 y1 y2 y3) (interlocutorref3_next.l0 (k + 1) y0 y1 y2 y3))
  | 0 => ⟨fun _ _ _ r h => by simp [interlocutorref3_next.j0] at h, fun _ _ _ _ r h => by simp [interlocutorref3_next.l0] at h⟩
  | k + 1 => by
    obtain ⟨ih0, ih1⟩ := interlocutorref3_next.mono_l k
    refine ⟨?_, ?_⟩
    · intro y0 y1 y2
      unfold interlocutorref3_next.j0
      repeat' first
      | (with_reducible exact ih0 _ _ _)
      | (with_reducible exact ih1 _ _ _ _)
      | (with_reducible exact interlocutorref3_size.mono _ _)
      | (with_reducible exact LeO.refl _)
      | (with_reducible exact LeO.none _)
      | (with_reducible refine LeO.ite ?_ ?_)
      | (with_reducible refine LeO.bind ?_ (fun _ => ?_))
      | exact ih0 _ _ _
      | exact ih1 _ _ _ _
      | exact interlocutorref3_size.mono _ _
      | exact LeO.none _
      | refine LeO.ite ?_ ?_
      | refine LeO.bind ?_ (fun _ => ?_)
    · intro y0 y1 y2 y3
      unfold interlocutorref3_next.l0
      repeat' first
      | (with_reducible exact ih0 _ _ _)
      | (with_reducible exact ih1 _ _ _ _)
      | (with_reducible exact interlocutorref3_size.mono _ _)
      | (with_reducible exact LeO.refl _)
      | (with_reducible exact LeO.none _)
      | (with_reducible refine LeO.ite ?_ ?_)
      | (with_reducible refine LeO.bind ?_ (fun _ => ?_))
      | exact ih0 _ _ _
      | exact ih1 _ _ _ _
      | exact interlocutorref3_size.mono _ _
      | exact LeO.none _
      | refine LeO.ite ?_ ?_
      | refine LeO.bind ?_ (fun _ => ?_)
theorem interlocutorref3_next.mono : ∀ a0 k, LeO (interlocutorref3_next.f k a0) (interlocutorref3_next.f (k + 1) a0) := by
  intro a0 k
  obtain ⟨ih0, ih1⟩ := interlocutorref3_next.mono_l k
  unfold interlocutorref3_next.f
  repeat' first
      | (with_reducible exact ih0 _ _ _)
      | (with_reducible exact ih1 _ _ _ _)
      | (with_reducible exact interlocutorref3_size.mono _ _)
      | (with_reducible exact LeO.refl _)
      | (with_reducible exact LeO.none _)
      | (with_reducible refine LeO.ite ?_ ?_)
      | (with_reducible refine LeO.bind ?_ (fun _ => ?_))
      | exact ih0 _ _ _
      | exact ih1 _ _ _ _
      | exact interlocutorref3_size.mono _ _
      | exact LeO.none _
      | refine LeO.ite ?_ ?_
      | refine LeO.bind ?_ (fun _ => ?_)
set_option maxHeartbeats 8000000 in
set_option maxRecDepth 100000 in
theorem interlocutorref3_next.calls (k : Nat) (a0 : ByteArray) (r1 : Int) (r2 : Int) (w : World) (h : interlocutorref3_next.f k a0 = some (r1, r2)) :
    Calls Tryz.prog 65 #[.string a0] w fun e w' => e = .returned (.tuple #[.int .i64 r1, .int .i64 r2]) ∧ Drawn0 w w' := by
  have H : (if 0 < (a0.size : Int) then ((interlocutorref3_size.f k (bt a0 0)).bind fun t241 => (if t241 = 1 then (some (wrap64 (bt a0 0), 1)) else (if t241 = 0 then (interlocutorref3_next.j0 k a0 t241 true) else (interlocutorref3_next.j0 k a0 t241 (decide ((a0.size : Int) < t241)))))) else (none)) = some (r1, r2) := h
  clear h
  by_cases c2 : 0 < (a0.size : Int)
  rotate_left
  · rw [if_neg c2] at H
    exact absurd H (by simp)
  rw [if_pos c2] at H
  have c2b0 : decide (0 < (a0.size : Int)) = true := decide_eq_true c2
  have c2b1 : decide (0 < a0.size) = true := decide_eq_true (by omega)
  clear c2
  replace H := Option.bind_eq_some_iff.mp H
  obtain ⟨t241, A40, H⟩ := H
  replace H : (if t241 = 1 then (some (wrap64 (bt a0 0), 1)) else (if t241 = 0 then (interlocutorref3_next.j0 k a0 t241 true) else (interlocutorref3_next.j0 k a0 t241 (decide ((a0.size : Int) < t241))))) = some (r1, r2) := H
  have A4 := Aside0.mk A40
  clear A40
  by_cases c5 : t241 = 1
  · rw [if_pos c5] at H
    have c5b0 : (t241 == 1) = true := beq_iff_eq.mpr c5
    have c5b1 : (t241 != 1) = false := bne_eq_false_iff_eq.mpr c5
    clear c5
    simp only [Option.some.injEq, Prod.mk.injEq] at H
    obtain ⟨rfl, rfl⟩ := H
    have p3 : 0 ≤ (0 : Int) := (by omega)
    have q3 : 0 < a0.size := (by have : (0 : Int) < (a0.size : Int) := of_decide_eq_true (by first | (with_reducible assumption) | assumption); omega)
    have hx3 : ∀ h : 0 < a0.size, ((a0[0]'h).toNat : Int) = bt a0 0 := bt_at a0 0
    clear p3
    have qi3 : (0 < (a0.size : Int)) = True := eq_true (of_decide_eq_true (by first | (with_reducible assumption) | assumption))
    replace q3 := eq_true q3
    go_enter Tryz.func65, Tryz.ntmps65
    go_wp2_with (first | ((with_reducible refine gate_callee (f := 89) rfl ?_); refine goesL_ (some 9) rfl rfl Tryz.func89 (by kernel_rfl) rfl #[.int .u8 (bt a0 0)] rfl (by (try simp only [List.map_toArray, List.map_cons, List.map_nil]); first | done | rfl | (simp only [List.length_drop, List.length_take]; rfl)) ?_; (with_reducible refine (interlocutorref3_size.calls k (bt a0 0) t241 _ A4.out).mono ?_); rintro e w' ⟨rfl, ⟨nd, rfl⟩⟩; refine ⟨_, rfl, ?_⟩; have p6 : 0 ≤ (0 : Int) := (by omega); have q6 : 0 < a0.size := (by have : (0 : Int) < (a0.size : Int) := of_decide_eq_true (by first | (with_reducible assumption) | assumption); omega); have hx6 : ∀ h : 0 < a0.size, ((a0[0]'h).toNat : Int) = bt a0 0 := bt_at a0 0; clear p6; have qi6 : (0 < (a0.size : Int)) = True := eq_true (of_decide_eq_true (by first | (with_reducible assumption) | assumption)); replace q6 := eq_true q6))
    go_ret2
    exact ⟨by first | rfl | (simp; done) | (simp [*]; done), by repeat (first | exact Drawn0.refl _ | apply Drawn0.step)⟩
  rw [if_neg c5] at H
  have c5b0 : (t241 == 1) = false := beq_eq_false_iff_ne.mpr c5
  have c5b1 : (t241 != 1) = true := bne_iff_ne.mpr c5
  have HC7 := Aside0.mk H
  clear H
  have p3 : 0 ≤ (0 : Int) := (by omega)
  have q3 : 0 < a0.size := (by have : (0 : Int) < (a0.size : Int) := of_decide_eq_true (by first | (with_reducible assumption) | assumption); omega)
  have hx3 : ∀ h : 0 < a0.size, ((a0[0]'h).toNat : Int) = bt a0 0 := bt_at a0 0
  clear p3
  have qi3 : (0 < (a0.size : Int)) = True := eq_true (of_decide_eq_true (by first | (with_reducible assumption) | assumption))
  replace q3 := eq_true q3
  go_enter Tryz.func65, Tryz.ntmps65
  go_upto_region 4 with (first | ((with_reducible refine gate_callee (f := 89) rfl ?_); refine goesL_ (some 9) rfl rfl Tryz.func89 (by kernel_rfl) rfl #[.int .u8 (bt a0 0)] rfl (by (try simp only [List.map_toArray, List.map_cons, List.map_nil]); first | done | rfl | (simp only [List.length_drop, List.length_take]; rfl)) ?_; (with_reducible refine (interlocutorref3_size.calls k (bt a0 0) t241 _ A4.out).mono ?_); rintro e w' ⟨rfl, ⟨nd, rfl⟩⟩; refine ⟨_, rfl, ?_⟩))
  (try simp only [Act.put, List.setIfInBounds_toArray, List.set_cons_zero, List.set_cons_succ])
  go_cut [22] (fun v22 wc => ∃ (kq : Nat) (x22_6 : Bool), v22 = .bool x22_6 ∧ Aside0 (interlocutorref3_next.j0 kq a0 t241 x22_6 = some (r1, r2)) ∧ Aside0 (kq ≤ k) ∧ Drawn0 w wc)
  case first =>
   have H := HC7.out
   clear HC7
   by_cases c8 : t241 = 0
   · rw [if_pos c8] at H
     have c8b0 : (t241 == 0) = true := beq_iff_eq.mpr c8
     have c8b1 : (t241 != 0) = false := bne_eq_false_iff_eq.mpr c8
     clear c8
     (first | rw [c8b0] | (simp only [i64_w, i32_w]; rw [c8b0]) | skip)
     have H' := Aside0.mk H
     clear H
     go_wp2
     go_meet
     case rel => exact ⟨_, (true), (by first | rfl | (simp; done) | (simp [*]; done)), H', ⟨by first | omega | exact Nat.le_refl _⟩, by repeat (first | exact Drawn0.refl _ | apply Drawn0.step)⟩
   rw [if_neg c8] at H
   have c8b0 : (t241 == 0) = false := beq_eq_false_iff_ne.mpr c8
   have c8b1 : (t241 != 0) = true := bne_iff_ne.mpr c8
   (first | rw [c8b0] | (simp only [i64_w, i32_w]; rw [c8b0]) | skip)
   have H' := Aside0.mk H
   clear H
   go_wp2
   go_meet
   case rel => exact ⟨_, (decide ((a0.size : Int) < t241)), (by first | rfl | (simp; done) | (simp [*]; done)), H', ⟨by first | omega | exact Nat.le_refl _⟩, by repeat (first | exact Drawn0.refl _ | apply Drawn0.step)⟩
  case rest =>
   clear HC7
   try clear c2
   try clear c2b0
   try clear c2b1
   try clear p2
   try clear p3
   try clear q3
   try clear hx3
   try clear qi3
   try clear c5
   try clear c5b0
   try clear c5b1
   try clear c6
   try clear p6
   try clear q6
   try clear hx6
   try clear qi6
   try clear c8
   try clear c8b0
   try clear c8b1
   try clear p3
   try clear p6
   try clear q3
   try clear q6
   obtain ⟨kq, x22_6, rfl, HA, HJ6, ⟨mc6, rfl⟩⟩ := hcut
   cases kq with
   | zero => exact absurd HA.out (by simp [interlocutorref3_next.j0])
   | succ kj6 =>
    have H := HA.out
    clear HA
    simp only [interlocutorref3_next.j0] at H
    by_cases c9 : x22_6 = true
    · subst c9
      have H1 : (some (65533, 1)) = some (r1, r2) := by rw [if_pos rfl] at H; exact H
      clear H
      have H := H1
      clear H1
      simp only [Option.some.injEq, Prod.mk.injEq] at H
      obtain ⟨rfl, rfl⟩ := H
      go_wp2
      go_ret2
      exact ⟨by first | rfl | (simp; done) | (simp [*]; done), by repeat (first | exact Drawn0.refl _ | apply Drawn0.step)⟩
    replace c9 := Bool.eq_false_iff.mpr c9
    subst c9
    have H1 : (if 0 < (a0.size : Int) then (if 0 ≤ (IntKind.u64.wrap (wrap64 (t241 + 1))) then (interlocutorref3_next.l0 kj6 a0 t241 (Go.bits .and .i64 (wrap64 (bt a0 0)) (shr .i64 255 (IntKind.u64.wrap (wrap64 (t241 + 1))))) 1) else (none)) else (none)) = some (r1, r2) := by rw [if_neg (show ¬ (false = true) by decide)] at H; exact H
    clear H
    have H := H1
    clear H1
    by_cases c10 : 0 < (a0.size : Int)
    rotate_left
    · rw [if_neg c10] at H
      exact absurd H (by simp)
    rw [if_pos c10] at H
    have c10b0 : decide (0 < (a0.size : Int)) = true := decide_eq_true c10
    have c10b1 : decide (0 < a0.size) = true := decide_eq_true (by omega)
    clear c10
    obtain ⟨ji12, hji12⟩ : ∃ j_ : Int, (IntKind.u64.wrap (wrap64 (t241 + 1))) = j_ := ⟨_, rfl⟩
    replace H : (if 0 ≤ (ji12) then (interlocutorref3_next.l0 kj6 a0 t241 (Go.bits .and .i64 (wrap64 (bt a0 0)) (shr .i64 255 (ji12))) 1) else (none)) = some (r1, r2) := by first | (rw [hji12] at H; exact H) | (simp only [hji12] at H ⊢; exact H)
    by_cases c13 : 0 ≤ (ji12)
    rotate_left
    · rw [if_neg c13] at H
      exact absurd H (by simp)
    rw [if_pos c13] at H
    have c13b0 := eq_true c13
    have c13b1 : decide (0 ≤ (ji12)) = true := decide_eq_true c13
    clear c13
    obtain ⟨ji14, hji14⟩ : ∃ j_ : Int, (shr .i64 255 (ji12)) = j_ := ⟨_, rfl⟩
    replace H : (interlocutorref3_next.l0 kj6 a0 t241 (Go.bits .and .i64 (wrap64 (bt a0 0)) (ji14)) 1) = some (r1, r2) := by first | (rw [hji14] at H; exact H) | (simp only [hji14] at H ⊢; exact H)
    have hji14_ : (255 / 2 ^ min (ji12).toNat 64) = ji14 := hji14
    have hji14z : (ji12) ≤ 64 → (255 / 2 ^ (ji12).toNat) = ji14 := shr_small hji14
    have H' := Aside0.mk H
    clear H
    have p11 : 0 ≤ (0 : Int) := (by omega)
    have q11 : 0 < a0.size := (by have : (0 : Int) < (a0.size : Int) := of_decide_eq_true (by first | (with_reducible assumption) | assumption); omega)
    have hx11 : ∀ h : 0 < a0.size, ((a0[0]'h).toNat : Int) = bt a0 0 := bt_at a0 0
    clear p11
    have qi11 : (0 < (a0.size : Int)) = True := eq_true (of_decide_eq_true (by first | (with_reducible assumption) | assumption))
    replace q11 := eq_true q11
    go_wp2
    go_loopg [5, 6] kj6 (fun kq v5 v6 w' => ∃ (x5_2 : Int) (x6_2 : Int), v5 = .int .i64 x5_2 ∧ v6 = .int .i64 x6_2 ∧ Aside0 (interlocutorref3_next.l0 kq a0 t241 x5_2 x6_2 = some (r1, r2)) ∧ Aside0 (kq ≤ kj6) ∧ Drawn0 w w')
    case atStart => exact ⟨(Go.bits .and .i64 (wrap64 (bt a0 0)) (ji14)), (1), (by first | rfl | (simp; done) | (simp only [← hji14] <;> (first | rfl | simp)) | (simp [*]; done)), (by first | rfl | (simp; done) | (simp [*]; done)), H', ⟨Nat.le_refl _⟩, by repeat (first | exact Drawn0.refl _ | apply Drawn0.step)⟩
    case round =>
     clear H'
     try clear c1
     try clear p1
     try clear q1
     try clear hx1
     try clear qi1
     try clear c2
     try clear c2b0
     try clear c2b1
     try clear p2
     try clear p3
     try clear q3
     try clear hx3
     try clear qi3
     try clear c5
     try clear c5b0
     try clear c5b1
     try clear c6
     try clear p6
     try clear q6
     try clear hx6
     try clear qi6
     try clear c8
     try clear c8b0
     try clear c8b1
     try clear c9
     try clear c10
     try clear c10b0
     try clear c10b1
     try clear p11
     try clear q11
     try clear hx11
     try clear qi11
     try clear c13
     try clear c13b0
     try clear c13b1
     try clear p11
     try clear p2
     try clear p3
     try clear p6
     try clear q11
     try clear q3
     try clear q6
     obtain ⟨x5_2, x6_2, rfl, rfl, HA, HK2, ⟨m2, rfl⟩⟩ := hrel
     cases gk with
     | zero => exact absurd HA.out (by simp [interlocutorref3_next.l0])
     | succ k2 =>
      have H := HA.out
      clear HA
      simp only [interlocutorref3_next.l0] at H
      by_cases c15 : x6_2 < t241
      · rw [if_pos c15] at H
        have c15b0 : decide (x6_2 < t241) = true := decide_eq_true c15
        clear c15
        by_cases c16 : 0 ≤ x6_2
        rotate_left
        · rw [if_neg c16] at H
          exact absurd H (by simp)
        rw [if_pos c16] at H
        have c16b0 : decide (0 ≤ x6_2) = true := decide_eq_true c16
        clear c16
        by_cases c17 : x6_2 < (a0.size : Int)
        rotate_left
        · rw [if_neg c17] at H
          exact absurd H (by simp)
        rw [if_pos c17] at H
        have c17b0 : decide (x6_2 < (a0.size : Int)) = true := decide_eq_true c17
        clear c17
        by_cases c19 : (bt a0 x6_2) < 128
        · rw [if_pos c19] at H
          have c19b0 : decide ((bt a0 x6_2) < 128) = true := decide_eq_true c19
          clear c19
          simp only [Option.some.injEq, Prod.mk.injEq] at H
          obtain ⟨rfl, rfl⟩ := H
          have p18 : 0 ≤ (x6_2 : Int) := of_decide_eq_true (by first | (with_reducible assumption) | assumption)
          have q18 : x6_2 < (a0.size : Int) := of_decide_eq_true (by first | (with_reducible assumption) | assumption)
          have hx18 := bt_at a0 x6_2
          replace p18 := eq_true p18
          replace q18 := eq_true q18
          go_wp2
          go_ret2
          exact ⟨by first | rfl | (simp; done) | (simp only [← hji12, ← hji14] <;> (first | rfl | simp)) | (simp [*]; done), by repeat (first | exact Drawn0.refl _ | apply Drawn0.step)⟩
        rw [if_neg c19] at H
        have c19b0 : decide ((bt a0 x6_2) < 128) = false := decide_eq_false c19
        clear c19
        by_cases c21 : (bt a0 x6_2) > 191
        · rw [if_pos c21] at H
          have c21b0 : decide (191 < (bt a0 x6_2)) = true := decide_eq_true c21
          clear c21
          simp only [Option.some.injEq, Prod.mk.injEq] at H
          obtain ⟨rfl, rfl⟩ := H
          have p18 : 0 ≤ (x6_2 : Int) := of_decide_eq_true (by first | (with_reducible assumption) | assumption)
          have q18 : x6_2 < (a0.size : Int) := of_decide_eq_true (by first | (with_reducible assumption) | assumption)
          have hx18 := bt_at a0 x6_2
          replace p18 := eq_true p18
          replace q18 := eq_true q18
          have p20 : 0 ≤ (x6_2 : Int) := of_decide_eq_true (by first | (with_reducible assumption) | assumption)
          have q20 : x6_2 < (a0.size : Int) := of_decide_eq_true (by first | (with_reducible assumption) | assumption)
          have hx20 := bt_at a0 x6_2
          replace p20 := eq_true p20
          replace q20 := eq_true q20
          go_wp2
          go_ret2
          exact ⟨by first | rfl | (simp; done) | (simp only [← hji12, ← hji14] <;> (first | rfl | simp)) | (simp [*]; done), by repeat (first | exact Drawn0.refl _ | apply Drawn0.step)⟩
        rw [if_neg c21] at H
        have c21b0 : decide (191 < (bt a0 x6_2)) = false := decide_eq_false c21
        clear c21
        have H' := Aside0.mk H
        clear H
        have p18 : 0 ≤ (x6_2 : Int) := of_decide_eq_true (by first | (with_reducible assumption) | assumption)
        have q18 : x6_2 < (a0.size : Int) := of_decide_eq_true (by first | (with_reducible assumption) | assumption)
        have hx18 := bt_at a0 x6_2
        replace p18 := eq_true p18
        replace q18 := eq_true q18
        have p20 : 0 ≤ (x6_2 : Int) := of_decide_eq_true (by first | (with_reducible assumption) | assumption)
        have q20 : x6_2 < (a0.size : Int) := of_decide_eq_true (by first | (with_reducible assumption) | assumption)
        have hx20 := bt_at a0 x6_2
        replace p20 := eq_true p20
        replace q20 := eq_true q20
        have p22 : 0 ≤ (x6_2 : Int) := of_decide_eq_true (by first | (with_reducible assumption) | assumption)
        have q22 : x6_2 < (a0.size : Int) := of_decide_eq_true (by first | (with_reducible assumption) | assumption)
        have hx22 := bt_at a0 x6_2
        replace p22 := eq_true p22
        replace q22 := eq_true q22
        go_wp2
        go_roundg k2
        case measure => have := HJ6.out; have := HK2.out; omega
        case rel => exact ⟨(Go.bits .or .i64 (wrap64 (x5_2 * 64)) (Go.bits .and .i64 (wrap64 (bt a0 x6_2)) 63)), (wrap64 (x6_2 + 1)), (by first | rfl | (simp; done) | (simp [*]; done)), (by first | rfl | (simp; done) | (simp [*]; done)), H', ⟨by have := HJ6.out; have := HK2.out; omega⟩, by repeat (first | exact Drawn0.refl _ | apply Drawn0.step)⟩
      rw [if_neg c15] at H
      have c15b0 : decide (x6_2 < t241) = false := decide_eq_false c15
      clear c15
      by_cases c23 : t241 = 3
      rotate_left
      · rw [if_neg c23] at H
        have c23b0 : (t241 == 3) = false := beq_eq_false_iff_ne.mpr c23
        have c23b1 : (t241 != 3) = true := bne_iff_ne.mpr c23
        by_cases c30 : t241 = 4
        rotate_left
        · rw [if_neg c30] at H
          have c30b0 : (t241 == 4) = false := beq_eq_false_iff_ne.mpr c30
          have c30b1 : (t241 != 4) = true := bne_iff_ne.mpr c30
          simp only [Option.some.injEq, Prod.mk.injEq] at H
          obtain ⟨rfl, rfl⟩ := H
          go_wp2
          go_ret2
          exact ⟨by first | rfl | (simp; done) | (simp only [← hji12, ← hji14] <;> (first | rfl | simp)) | (simp [*]; done), by repeat (first | exact Drawn0.refl _ | apply Drawn0.step)⟩
        rw [if_pos c30] at H
        have c30b0 : (t241 == 4) = true := beq_iff_eq.mpr c30
        have c30b1 : (t241 != 4) = false := bne_eq_false_iff_eq.mpr c30
        clear c30
        by_cases c31 : x5_2 < 65536
        · rw [if_pos c31] at H
          have c31b0 : decide (x5_2 < 65536) = true := decide_eq_true c31
          clear c31
          simp only [Option.some.injEq, Prod.mk.injEq] at H
          obtain ⟨rfl, rfl⟩ := H
          go_wp2
          go_ret2
          exact ⟨by first | rfl | (simp; done) | (simp only [← hji12, ← hji14] <;> (first | rfl | simp)) | (simp [*]; done), by repeat (first | exact Drawn0.refl _ | apply Drawn0.step)⟩
        rw [if_neg c31] at H
        have c31b0 : decide (x5_2 < 65536) = false := decide_eq_false c31
        clear c31
        by_cases c32 : x5_2 > 1114111
        · rw [if_pos c32] at H
          have c32b0 : decide (1114111 < x5_2) = true := decide_eq_true c32
          clear c32
          simp only [Option.some.injEq, Prod.mk.injEq] at H
          obtain ⟨rfl, rfl⟩ := H
          go_wp2
          go_ret2
          exact ⟨by first | rfl | (simp; done) | (simp only [← hji12, ← hji14] <;> (first | rfl | simp)) | (simp [*]; done), by repeat (first | exact Drawn0.refl _ | apply Drawn0.step)⟩
        rw [if_neg c32] at H
        have c32b0 : decide (1114111 < x5_2) = false := decide_eq_false c32
        clear c32
        simp only [Option.some.injEq, Prod.mk.injEq] at H
        obtain ⟨rfl, rfl⟩ := H
        go_wp2
        go_ret2
        exact ⟨by first | rfl | (simp; done) | (simp only [← hji12, ← hji14] <;> (first | rfl | simp)) | (simp [*]; done), by repeat (first | exact Drawn0.refl _ | apply Drawn0.step)⟩
      rw [if_pos c23] at H
      have c23b0 : (t241 == 3) = true := beq_iff_eq.mpr c23
      have c23b1 : (t241 != 3) = false := bne_eq_false_iff_eq.mpr c23
      clear c23
      by_cases c24 : x5_2 < 2048
      · rw [if_pos c24] at H
        have c24b0 : decide (x5_2 < 2048) = true := decide_eq_true c24
        clear c24
        simp only [Option.some.injEq, Prod.mk.injEq] at H
        obtain ⟨rfl, rfl⟩ := H
        go_wp2
        go_ret2
        exact ⟨by first | rfl | (simp; done) | (simp only [← hji12, ← hji14] <;> (first | rfl | simp)) | (simp [*]; done), by repeat (first | exact Drawn0.refl _ | apply Drawn0.step)⟩
      rw [if_neg c24] at H
      have c24b0 : decide (x5_2 < 2048) = false := decide_eq_false c24
      clear c24
      replace H := Option.bind_eq_some_iff.mp H
      obtain ⟨t242, A250, H⟩ := H
      replace H : (if t242 = true then (some (65533, 1)) else (if t241 = 4 then (if x5_2 < 65536 then (some (65533, 1)) else (if x5_2 > 1114111 then (some (65533, 1)) else (some (x5_2, t241)))) else (some (x5_2, t241)))) = some (r1, r2) := H
      have A25 := Aside0.mk A250
      clear A250
      by_cases c26 : t242 = true
      · subst c26
        have H1 : (some (65533, 1)) = some (r1, r2) := by rw [if_pos rfl] at H; exact H
        clear H
        have H := H1
        clear H1
        simp only [Option.some.injEq, Prod.mk.injEq] at H
        obtain ⟨rfl, rfl⟩ := H
        go_wp2_with (first | (go_at_call 90; (with_reducible refine (interlocutorref3_in.calls x5_2 55296 57343 true _ A25.out).mono ?_); rintro e w' ⟨rfl, ⟨nd, rfl⟩⟩))
        go_ret2
        exact ⟨by first | rfl | (simp; done) | (simp only [← hji12, ← hji14] <;> (first | rfl | simp)) | (simp [*]; done), by repeat (first | exact Drawn0.refl _ | apply Drawn0.step)⟩
      replace c26 := Bool.eq_false_iff.mpr c26
      subst c26
      have H1 : (if t241 = 4 then (if x5_2 < 65536 then (some (65533, 1)) else (if x5_2 > 1114111 then (some (65533, 1)) else (some (x5_2, t241)))) else (some (x5_2, t241))) = some (r1, r2) := by rw [if_neg (show ¬ (false = true) by decide)] at H; exact H
      clear H
      have H := H1
      clear H1
      by_cases c27 : t241 = 4
      rotate_left
      · rw [if_neg c27] at H
        have c27b0 : (t241 == 4) = false := beq_eq_false_iff_ne.mpr c27
        have c27b1 : (t241 != 4) = true := bne_iff_ne.mpr c27
        simp only [Option.some.injEq, Prod.mk.injEq] at H
        obtain ⟨rfl, rfl⟩ := H
        go_wp2_with (first | (go_at_call 90; (with_reducible refine (interlocutorref3_in.calls x5_2 55296 57343 false _ A25.out).mono ?_); rintro e w' ⟨rfl, ⟨nd, rfl⟩⟩))
        go_ret2
        exact ⟨by first | rfl | (simp; done) | (simp only [← hji12, ← hji14] <;> (first | rfl | simp)) | (simp [*]; done), by repeat (first | exact Drawn0.refl _ | apply Drawn0.step)⟩
      rw [if_pos c27] at H
      have c27b0 : (t241 == 4) = true := beq_iff_eq.mpr c27
      have c27b1 : (t241 != 4) = false := bne_eq_false_iff_eq.mpr c27
      clear c27
      by_cases c28 : x5_2 < 65536
      · rw [if_pos c28] at H
        have c28b0 : decide (x5_2 < 65536) = true := decide_eq_true c28
        clear c28
        simp only [Option.some.injEq, Prod.mk.injEq] at H
        obtain ⟨rfl, rfl⟩ := H
        go_wp2_with (first | (go_at_call 90; (with_reducible refine (interlocutorref3_in.calls x5_2 55296 57343 false _ A25.out).mono ?_); rintro e w' ⟨rfl, ⟨nd, rfl⟩⟩))
        go_ret2
        exact ⟨by first | rfl | (simp; done) | (simp only [← hji12, ← hji14] <;> (first | rfl | simp)) | (simp [*]; done), by repeat (first | exact Drawn0.refl _ | apply Drawn0.step)⟩
      rw [if_neg c28] at H
      have c28b0 : decide (x5_2 < 65536) = false := decide_eq_false c28
      clear c28
      by_cases c29 : x5_2 > 1114111
      · rw [if_pos c29] at H
        have c29b0 : decide (1114111 < x5_2) = true := decide_eq_true c29
        clear c29
        simp only [Option.some.injEq, Prod.mk.injEq] at H
        obtain ⟨rfl, rfl⟩ := H
        go_wp2_with (first | (go_at_call 90; (with_reducible refine (interlocutorref3_in.calls x5_2 55296 57343 false _ A25.out).mono ?_); rintro e w' ⟨rfl, ⟨nd, rfl⟩⟩))
        go_ret2
        exact ⟨by first | rfl | (simp; done) | (simp only [← hji12, ← hji14] <;> (first | rfl | simp)) | (simp [*]; done), by repeat (first | exact Drawn0.refl _ | apply Drawn0.step)⟩
      rw [if_neg c29] at H
      have c29b0 : decide (1114111 < x5_2) = false := decide_eq_false c29
      clear c29
      simp only [Option.some.injEq, Prod.mk.injEq] at H
      obtain ⟨rfl, rfl⟩ := H
      go_wp2_with (first | (go_at_call 90; (with_reducible refine (interlocutorref3_in.calls x5_2 55296 57343 false _ A25.out).mono ?_); rintro e w' ⟨rfl, ⟨nd, rfl⟩⟩))
      go_ret2
      exact ⟨by first | rfl | (simp; done) | (simp only [← hji12, ← hji14] <;> (first | rfl | simp)) | (simp [*]; done), by repeat (first | exact Drawn0.refl _ | apply Drawn0.step)⟩
end Go.Proofs.YtjijikgandkphaaGreatDoor.G
