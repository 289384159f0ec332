-- printed by wip/tool/gprint.py, a program of this work, out of the translation; Lean checks it
import Derived.Test.YtlgndfplikhflaaDoorGx0
import Derived.Test.YtlgndfplikhflaaDoorGx15
namespace Go.Proofs.YtlgndfplikhflaaDoor.G
open Go.RowKit Go.Proofs.YtlgndfplikhflaaDoorW.PrintWords Go.Proofs.YtlgndfplikhflaaDoorW.PrintLast Go.Proofs.YtlgndfplikhflaaDoorW.PrintMore Go.Proofs.YtlgndfplikhflaaDoorW.VWords Go.Proofs.YtlgndfplikhflaaDoorW.Tab
attribute [local go_sem] max2_int min2_int max_two min_two max_three min_three max_four min_four   -- for this text's walks alone
set_option linter.unusedVariables false
set_option linter.unusedSimpArgs false

/-! ### interlocutorref10_Same: function 20 -/
abbrev N20 : Bool := false
abbrev Y20 : Bool := true
theorem pq20 : (∀ (t : Array Value) d (n : Nat) (v : Value), Act.put ⟨t, d⟩ (some n) v = ⟨t.setIfInBounds n v, d⟩) ∧ (∀ (l : List Value) (n : Nat) (v : Value), l.toArray.setIfInBounds n v = (l.set n v).toArray) ∧ (∀ (x v : Value) (l : List Value), (x :: l).set 0 v = v :: l) ∧ (∀ (x v : Value) (l : List Value) (n : Nat), (x :: l).set (n + 1) v = x :: l.set n v) ∧ (∀ z : Int, IntKind.i64.wrap z = wrap64 z) ∧ (∀ z : Int, IntKind.i32.wrap z = wrap32 z) := ⟨fun _ _ _ _ => rfl, fun _ _ _ => List.setIfInBounds_toArray .., fun _ _ _ => List.set_cons_zero .., fun _ _ _ _ => List.set_cons_succ .., i64_w, i32_w⟩
def interlocutorref10_Same.l0 : Nat → List (S36) → List (S36) → Int → Option (Bool)
  | 0, _, _, _ => none
  | k + 1, x0, x1, x5 => if x5 < (x0.length : Int) then (if 0 ≤ x5 then (if x5 < (x1.length : Int) then ((interlocutorref10_Cmp.f k ((rd_T36 x0 x5).f0.f0) ((rd_T36 x0 x5).f0.f1) ((rd_T36 x1 x5).f0.f0) ((rd_T36 x1 x5).f0.f1)).bind fun t215 => (if t215 = 0 then (if ((rd_T36 x0 x5).f1) = ((rd_T36 x1 x5).f1) then (interlocutorref10_Same.l0 k x0 x1 (wrap64 (x5 + 1))) else (some false)) else (some false))) else (none)) else (none)) else (some true)
def interlocutorref10_Same.f (k : Nat) (l0 : List (S36)) (l1 : List (S36)) : Option (Bool) := if (l0.length : Int) = (l1.length : Int) then (interlocutorref10_Same.l0 k l0 l1 0) else (some false)
theorem interlocutorref10_Same.mono_l : ∀ k, (∀ y0 y1 y2, LeO (interlocutorref10_Same.l0 k y0 y1 y2) (interlocutorref10_Same.l0 (k + 1) y0 y1 y2))
  | 0 => fun _ _ _ r h => by simp [interlocutorref10_Same.l0] at h
  | k + 1 => by
    have ih0 := interlocutorref10_Same.mono_l k
    · intro y0 y1 y2
      unfold interlocutorref10_Same.l0
      repeat' first
      | (with_reducible exact ih0 _ _ _)
      | (with_reducible exact interlocutorref10_Cmp.mono _ _ _ _ _)
      | (with_reducible exact LeO.refl _)
      | (with_reducible exact LeO.none _)
      | (with_reducible refine LeO.ite ?_ ?_)
      | (with_reducible refine LeO.bind ?_ (fun _ => ?_))
      | exact ih0 _ _ _
      | exact interlocutorref10_Cmp.mono _ _ _ _ _
      | exact LeO.none _
      | refine LeO.ite ?_ ?_
      | refine LeO.bind ?_ (fun _ => ?_)
theorem interlocutorref10_Same.mono : ∀ a0 a1 k, LeO (interlocutorref10_Same.f k a0 a1) (interlocutorref10_Same.f (k + 1) a0 a1) := by
  intro a0 a1 k
  have ih0 := interlocutorref10_Same.mono_l k
  unfold interlocutorref10_Same.f
  repeat' first
      | (with_reducible exact ih0 _ _ _)
      | (with_reducible exact interlocutorref10_Cmp.mono _ _ _ _ _)
      | (with_reducible exact LeO.refl _)
      | (with_reducible exact LeO.none _)
      | (with_reducible refine LeO.ite ?_ ?_)
      | (with_reducible refine LeO.bind ?_ (fun _ => ?_))
      | exact ih0 _ _ _
      | exact interlocutorref10_Cmp.mono _ _ _ _ _
      | exact LeO.none _
      | refine LeO.ite ?_ ?_
      | refine LeO.bind ?_ (fun _ => ?_)
def interlocutorref10_Same.T6 : Bool × List (List Nat × List Nat) := (true, [([], []), ([], []), ([0, 1], [0, 1]), ([2], [2]), ([3], [3]), ([], []), ([], []), ([5, 6], [5, 6]), ([7], [7]), ([8], [8]), ([4, 9], [4, 9]), ([10], [10]), ([11, 10], [11]), ([12], [12]), ([12], [12]), ([13, 14, 12], [12, 13, 14]), ([15, 12], [12, 15]), ([16, 12], [12, 16]), ([12], [12]), ([12], [12]), ([18, 19, 12], [12, 18, 19]), ([20, 12], [12, 20]), ([21, 12], [12, 21]), ([17, 22, 12], [12, 17, 22]), ([12, 23], [12, 23])])
def interlocutorref10_Same.B6 : List Nat := [0, 0, 3, 7, 15, 0, 0, 96, 224, 480, 1023, 2047, 4095, 8191, 8191, 32767, 65535, 131071, 8191, 8191, 794623, 1843199, 3940351, 8388607, 16777215]
theorem interlocutorref10_Same.tab6 : rtab .any (opsOf Tryd.f20 6) = interlocutorref10_Same.T6 := by kernel_rfl
theorem interlocutorref10_Same.bits6 : waitsOk interlocutorref10_Same.T6.2 interlocutorref10_Same.B6 = true := by kernel_rfl
set_option maxHeartbeats 8000000 in
set_option maxRecDepth 100000 in
theorem interlocutorref10_Same.calls (k : Nat) (A0 : Option Addr) (c0 : Nat) (l0 : List (S36)) (A1 : Option Addr) (c1 : Nat) (l1 : List (S36)) (r : Bool) (w : World) (hr0 : Kd.C k36 w A0 l0.length l0) (hc0 : l0.length ≤ c0) (hr1 : Kd.C k36 w A1 l1.length l1) (hc1 : l1.length ≤ c1) (h : interlocutorref10_Same.f k l0 l1 = some r) :
    Calls Tryd.prog 20 #[.slice A0 l0.length c0, .slice A1 l1.length c1] w fun e w' => e = .returned (.bool r) ∧ Below w.heap.size w w' := by
  have hu24 := Tryd.underlying24
  have HR0 := Aside0.mk hr0
  have HC0 := Aside0.mk hc0
  clear hr0 hc0
  have HR1 := Aside0.mk hr1
  have HC1 := Aside0.mk hc1
  clear hr1 hc1
  have HB := Aside0.mk (Below.refl w.heap.size w)
  have H : (if (l0.length : Int) = (l1.length : Int) then (interlocutorref10_Same.l0 k l0 l1 0) else (some false)) = some r := h
  clear h
  by_cases c3 : (l0.length : Int) = (l1.length : Int)
  rotate_left
  · rw [if_neg c3] at H
    have c3b0 : ((l0.length : Int) == (l1.length : Int)) = false := beq_eq_false_iff_ne.mpr c3
    have c3b1 : ((l0.length : Int) != (l1.length : Int)) = true := bne_iff_ne.mpr c3
    have c3b2 : (l0.length == l1.length) = false := by first | simpa using c3 | (simp at c3 ⊢; omega)
    obtain rfl := Option.some.inj H
    go_enter Tryd.func20, Tryd.ntmps20
    go_wp2
    go_ret
    exact ⟨by first | rfl | (simp [errW_none, errW_some] <;> rfl) | (simp [*, errW_none, errW_some] <;> rfl), by repeat (first | (with_reducible first | exact HB.out | apply below_alloc | apply pw_below_drewN | apply below_drew1) | exact HB.out)⟩
  rw [if_pos c3] at H
  have c3b0 : ((l0.length : Int) == (l1.length : Int)) = true := beq_iff_eq.mpr c3
  have c3b1 : ((l0.length : Int) != (l1.length : Int)) = false := bne_eq_false_iff_eq.mpr c3
  have c3b2 : (l0.length == l1.length) = true := by first | simpa using c3 | (simp at c3 ⊢; omega)
  clear c3
  have H' := Aside0.mk H
  clear H
  go_enter Tryd.func20, Tryd.ntmps20
  go_wp2
  go_loopg [5] k (fun kq v5 w' => ∃ (x5_1 : Int), v5 = .int .i64 x5_1 ∧ Aside0 (interlocutorref10_Same.l0 kq l0 l1 x5_1 = some r) ∧ Aside0 (kq ≤ k) ∧ Aside0 (Below w.heap.size w w'))
  case atStart => exact ⟨(0), (by first | rfl | (simp; done) | (simp [*]; done)), H', ⟨Nat.le_refl _⟩, ⟨by repeat (first | (with_reducible first | exact HB.out | apply below_alloc | apply pw_below_drewN | apply below_drew1) | exact HB.out)⟩⟩
  case round =>
   clear H'
   try clear c1
   try clear c2
   try clear p2
   try clear c3
   try clear c3b0
   try clear c3b1
   try clear c3b2
   obtain ⟨x5_1, rfl, HA, HK1, HB⟩ := hrel
   cases gk with
   | zero => exact absurd HA.out (by simp [interlocutorref10_Same.l0])
   | succ k1 =>
    have H := HA.out
    clear HA
    simp only [interlocutorref10_Same.l0] at H
    by_cases c4 : x5_1 < (l0.length : Int)
    rotate_left
    · rw [if_neg c4] at H
      have c4b0 : decide (x5_1 < (l0.length : Int)) = false := decide_eq_false c4
      clear c4
      obtain rfl := Option.some.inj H
      go_wp2
      go_ret
      exact ⟨by first | rfl | (simp [errW_none, errW_some] <;> rfl) | (simp [*, errW_none, errW_some] <;> rfl), by repeat (first | (with_reducible first | exact HB.out | apply below_alloc | apply pw_below_drewN | apply below_drew1) | exact HB.out)⟩
    rw [if_pos c4] at H
    have c4b0 : decide (x5_1 < (l0.length : Int)) = true := decide_eq_true c4
    clear c4
    by_cases c5 : 0 ≤ x5_1
    rotate_left
    · rw [if_neg c5] at H
      exact absurd H (by simp)
    rw [if_pos c5] at H
    have c5b0 : decide (0 ≤ x5_1) = true := decide_eq_true c5
    clear c5
    by_cases c6 : x5_1 < (l1.length : Int)
    rotate_left
    · rw [if_neg c6] at H
      exact absurd H (by simp)
    rw [if_pos c6] at H
    have c6b0 : decide (x5_1 < (l1.length : Int)) = true := decide_eq_true c6
    clear c6
    replace H := Option.bind_eq_some_iff.mp H
    obtain ⟨t215, A70, H⟩ := H
    replace H : (if t215 = 0 then (if ((rd_T36 l0 x5_1).f1) = ((rd_T36 l1 x5_1).f1) then (interlocutorref10_Same.l0 k1 l0 l1 (wrap64 (x5_1 + 1))) else (some false)) else (some false)) = some r := H
    have A7 := Aside0.mk A70
    clear A70
    by_cases c8 : t215 = 0
    rotate_left
    · rw [if_neg c8] at H
      have c8b0 : (t215 == 0) = false := beq_eq_false_iff_ne.mpr c8
      have c8b1 : (t215 != 0) = true := bne_iff_ne.mpr c8
      obtain rfl := Option.some.inj H
      try go_wp2
      have n0_ := Aside0.mk (below_drew1 HB.out)
      clear HB
      have HB := n0_
      clear n0_
      have p213 : 0 ≤ (x5_1 : Int) := of_decide_eq_true (by first | (with_reducible assumption) | assumption)
      have q213 : x5_1 < (l0.length : Int) := of_decide_eq_true (by first | (with_reducible assumption) | assumption)
      obtain ⟨ad213, A213_1, c213_1, e213, hx213_0, hx213_1, hx213_2, hl213_1, hi213_1⟩ := at_T36 HR0.out x5_1 p213 q213
      have hw213_2 := hx213_2
      have hw213_1 := hx213_1
      have hw213_0 := hx213_0
      cases e213
      replace hx213_0 := (HB.out.cell (World.block_lt_of_cell? w _ hx213_0)).trans hx213_0
      replace hx213_1 := (HB.out.cell (World.block_lt_of_cell? w _ hx213_1)).trans hx213_1
      replace hx213_2 := (HB.out.cell (World.block_lt_of_cell? w _ hx213_2)).trans hx213_2
      have HR213_1 := Aside0.mk hi213_1
      have HC213_1 := Aside0.mk hl213_1
      clear hi213_1 hl213_1
      replace p213 := eq_true p213
      replace q213 := eq_true q213
      have p214 : 0 ≤ (x5_1 : Int) := of_decide_eq_true (by first | (with_reducible assumption) | assumption)
      have q214 : x5_1 < (l1.length : Int) := of_decide_eq_true (by first | (with_reducible assumption) | assumption)
      obtain ⟨ad214, A214_1, c214_1, e214, hx214_0, hx214_1, hx214_2, hl214_1, hi214_1⟩ := at_T36 HR1.out x5_1 p214 q214
      have hw214_2 := hx214_2
      have hw214_1 := hx214_1
      have hw214_0 := hx214_0
      cases e214
      replace hx214_0 := (HB.out.cell (World.block_lt_of_cell? w _ hx214_0)).trans hx214_0
      replace hx214_1 := (HB.out.cell (World.block_lt_of_cell? w _ hx214_1)).trans hx214_1
      replace hx214_2 := (HB.out.cell (World.block_lt_of_cell? w _ hx214_2)).trans hx214_2
      have HR214_1 := Aside0.mk hi214_1
      have HC214_1 := Aside0.mk hl214_1
      clear hi214_1 hl214_1
      replace p214 := eq_true p214
      replace q214 := eq_true q214
      refine start_ (n := 25) (S := fun w' => w'.cell? (ad213.add ((x5_1).toNat * 3)) = some (.int .i64 ((rd_T36 l0 x5_1).f0.f0)) ∧ w'.cell? ⟨(ad213.add ((x5_1).toNat * 3)).block, (ad213.add ((x5_1).toNat * 3)).off + 1, none⟩ = some (.slice A213_1 ((rd_T36 l0 x5_1).f0.f1).length c213_1) ∧ w'.cell? ⟨(ad213.add ((x5_1).toNat * 3)).block, (ad213.add ((x5_1).toNat * 3)).off + 2, none⟩ = some (.int .i64 ((rd_T36 l0 x5_1).f1)) ∧ w'.cell? (ad214.add ((x5_1).toNat * 3)) = some (.int .i64 ((rd_T36 l1 x5_1).f0.f0)) ∧ w'.cell? ⟨(ad214.add ((x5_1).toNat * 3)).block, (ad214.add ((x5_1).toNat * 3)).off + 1, none⟩ = some (.slice A214_1 ((rd_T36 l1 x5_1).f0.f1).length c214_1) ∧ w'.cell? ⟨(ad214.add ((x5_1).toNat * 3)).block, (ad214.add ((x5_1).toNat * 3)).off + 2, none⟩ = some (.int .i64 ((rd_T36 l1 x5_1).f1))) (ds := []) #[N20,N20,N20,N20,N20,N20,N20,N20,N20,N20,N20,N20,N20,N20,N20,N20,N20,N20,N20,N20,N20,N20,N20,N20,N20] (by kernel_rfl) rfl rfl ⟨((HB.out.cell (World.block_lt_of_cell? w _ hw213_0)).trans hw213_0), ((HB.out.cell (World.block_lt_of_cell? w _ hw213_1)).trans hw213_1), ((HB.out.cell (World.block_lt_of_cell? w _ hw213_2)).trans hw213_2), ((HB.out.cell (World.block_lt_of_cell? w _ hw214_0)).trans hw214_0), ((HB.out.cell (World.block_lt_of_cell? w _ hw214_1)).trans hw214_1), ((HB.out.cell (World.block_lt_of_cell? w _ hw214_2)).trans hw214_2)⟩ (fun hHeld => ?_); refine with_tabW interlocutorref10_Same.tab6 interlocutorref10_Same.bits6 (fun HT_ HW_ => ?_)
      generalize wr.drew = w14 at HB HR213_1 HR214_1 hx213_0 hx213_1 hx213_2 hx214_0 hx214_1 hx214_2 hHeld ⊢
      refine pure_ (i := 0) (N := some 17) (v := ?_) (a' := ?_) #[Y20,N20,N20,N20,N20,N20,N20,N20,N20,N20,N20,N20,N20,N20,N20,N20,N20,N20,N20,N20,N20,N20,N20,N20,N20] rfl rfl (any_of HT_.out (by kernel_rfl)) (fun _ _ _ h => h) (Or.inl ⟨by rfl, ?_⟩) ?_ ?_; rotate_left; (intro w'; go_simp; with_reducible rfl); rotate_left; (simp only [pq20]; rfl)
      refine pure_ (i := 1) (N := some 18) (v := ?_) (a' := ?_) #[Y20,Y20,N20,N20,N20,N20,N20,N20,N20,N20,N20,N20,N20,N20,N20,N20,N20,N20,N20,N20,N20,N20,N20,N20,N20] rfl rfl (any_of HT_.out (by kernel_rfl)) (fun _ _ _ h => h) (Or.inl ⟨by rfl, ?_⟩) ?_ ?_; rotate_left; (intro w'; go_simp; with_reducible rfl); rotate_left; (simp only [pq20]; rfl)
      refine pure_ (i := 2) (N := some 19) (v := ?_) (a' := ?_) #[Y20,Y20,Y20,N20,N20,N20,N20,N20,N20,N20,N20,N20,N20,N20,N20,N20,N20,N20,N20,N20,N20,N20,N20,N20,N20] rfl rfl (any_of HT_.out (by kernel_rfl)) (fun _ _ _ h => h) (Or.inl ⟨by rfl, ?_⟩) ?_ ?_; rotate_left; (intro w'; go_simp; with_reducible rfl); rotate_left; (simp only [pq20]; rfl)
      refine pure_ (i := 3) (N := some 20) (v := ?_) (a' := ?_) #[Y20,Y20,Y20,Y20,N20,N20,N20,N20,N20,N20,N20,N20,N20,N20,N20,N20,N20,N20,N20,N20,N20,N20,N20,N20,N20] rfl rfl (any_of HT_.out (by kernel_rfl)) (fun _ _ _ h => h) (Or.inl ⟨by rfl, ?_⟩) ?_ ?_; rotate_left; (intro w'; go_simp; with_reducible rfl); rotate_left; (simp only [pq20]; rfl)
      refine pure_ (i := 5) (N := some 22) (v := ?_) (a' := ?_) #[Y20,Y20,Y20,Y20,N20,Y20,N20,N20,N20,N20,N20,N20,N20,N20,N20,N20,N20,N20,N20,N20,N20,N20,N20,N20,N20] rfl rfl (any_of HT_.out (by kernel_rfl)) (fun _ _ _ h => h) (Or.inl ⟨by rfl, ?_⟩) ?_ ?_; rotate_left; (intro w'; go_simp; with_reducible rfl); rotate_left; (simp only [pq20]; rfl)
      refine pure_ (i := 6) (N := some 23) (v := ?_) (a' := ?_) #[Y20,Y20,Y20,Y20,N20,Y20,Y20,N20,N20,N20,N20,N20,N20,N20,N20,N20,N20,N20,N20,N20,N20,N20,N20,N20,N20] rfl rfl (any_of HT_.out (by kernel_rfl)) (fun _ _ _ h => h) (Or.inl ⟨by rfl, ?_⟩) ?_ ?_; rotate_left; (intro w'; go_simp; with_reducible rfl); rotate_left; (simp only [pq20]; rfl)
      refine pure_ (i := 7) (N := some 24) (v := ?_) (a' := ?_) #[Y20,Y20,Y20,Y20,N20,Y20,Y20,Y20,N20,N20,N20,N20,N20,N20,N20,N20,N20,N20,N20,N20,N20,N20,N20,N20,N20] rfl rfl (any_of HT_.out (by kernel_rfl)) (fun _ _ _ h => h) (Or.inl ⟨by rfl, ?_⟩) ?_ ?_; rotate_left; (intro w'; go_simp; with_reducible rfl); rotate_left; (simp only [pq20]; rfl)
      refine pure_ (i := 8) (N := some 25) (v := ?_) (a' := ?_) #[Y20,Y20,Y20,Y20,N20,Y20,Y20,Y20,Y20,N20,N20,N20,N20,N20,N20,N20,N20,N20,N20,N20,N20,N20,N20,N20,N20] rfl rfl (any_of HT_.out (by kernel_rfl)) (fun _ _ _ h => h) (Or.inl ⟨by rfl, ?_⟩) ?_ ?_; rotate_left; (intro w'; go_simp; with_reducible rfl); rotate_left; (simp only [pq20]; rfl)
      refine take_ (i := 4) (N := some 21) (v := ?_) (a' := ?_) #[Y20,Y20,Y20,Y20,Y20,Y20,Y20,Y20,Y20,N20,N20,N20,N20,N20,N20,N20,N20,N20,N20,N20,N20,N20,N20,N20,N20] rfl rfl (take_ofW HT_.out HW_.out (by kernel_rfl)) (fun _ _ _ h => h) (Or.inl ⟨by rfl, ?_⟩) hHeld ?_ ?_
      rotate_left
      · rintro w' ⟨s0, s1, s2, s3, s4, s5⟩
        go_simp
        with_reducible rfl
      rotate_left
      · simp only [pq20]
        rfl
      refine take_ (i := 9) (N := some 26) (v := ?_) (a' := ?_) #[Y20,Y20,Y20,Y20,Y20,Y20,Y20,Y20,Y20,Y20,N20,N20,N20,N20,N20,N20,N20,N20,N20,N20,N20,N20,N20,N20,N20] rfl rfl (take_ofW HT_.out HW_.out (by kernel_rfl)) (fun _ _ _ h => h) (Or.inl ⟨by rfl, ?_⟩) hHeld ?_ ?_
      rotate_left
      · rintro w' ⟨s0, s1, s2, s3, s4, s5⟩
        go_simp
        with_reducible rfl
      rotate_left
      · simp only [pq20]
        rfl
      refine one_ (i := 10) (N := some 27) #[Y20,Y20,Y20,Y20,Y20,Y20,Y20,Y20,Y20,Y20,Y20,N20,N20,N20,N20,N20,N20,N20,N20,N20,N20,N20,N20,N20,N20] rfl rfl (one_of HT_.out (by kernel_rfl)) (by decide) (fun K hK => ?_)
      refine goes_ Tryd.func15 (by kernel_rfl) rfl #[.agg #[.int .i64 ((rd_T36 l0 x5_1).f0.f0), .slice A213_1 ((rd_T36 l0 x5_1).f0.f1).length c213_1], .agg #[.int .i64 ((rd_T36 l1 x5_1).f0.f0), .slice A214_1 ((rd_T36 l1 x5_1).f0.f1).length c214_1]] (by rfl) rfl rfl (by (try simp only [List.map_toArray, List.map_cons, List.map_nil]); first | done | rfl | (simp only [List.length_drop, List.length_take]; rfl)) ?_
      with_reducible refine (interlocutorref10_Cmp.calls k1 ((rd_T36 l0 x5_1).f0.f0) _ _ ((rd_T36 l0 x5_1).f0.f1) ((rd_T36 l1 x5_1).f0.f0) _ _ ((rd_T36 l1 x5_1).f0.f1) t215 _ ?side1 ?side2 ?side3 ?side4 A7.out).mono ?_
      (case side1 => repeat (first | exact (Kd.C_below HR213_1.out HB.out) | (with_reducible refine Kd.C_alloc ?_ _) | (with_reducible refine Kd.C_drewN ?_ _) | (with_reducible refine Kd.C_drew ?_)))
      (case side2 => exact HC213_1.out)
      (case side3 => repeat (first | exact (Kd.C_below HR214_1.out HB.out) | (with_reducible refine Kd.C_alloc ?_ _) | (with_reducible refine Kd.C_drewN ?_ _) | (with_reducible refine Kd.C_drew ?_)))
      (case side4 => exact HC214_1.out)
      rintro e w15 ⟨rfl, hb⟩
      refine ⟨_, rfl, ?_⟩
      have n0_ := Aside0.mk (below_step (by repeat (first | (with_reducible first | exact HB.out | apply below_alloc | apply pw_below_drewN | apply below_drew1) | exact HB.out)) hb)
      clear HB
      have HB := n0_
      clear n0_
      (try clear hb)
      (try clear hb2)
      (try clear hk)
      (try clear hi)
      refine hK.out _ _ ⟨((HB.out.cell (World.block_lt_of_cell? w _ hw213_0)).trans hw213_0), ((HB.out.cell (World.block_lt_of_cell? w _ hw213_1)).trans hw213_1), ((HB.out.cell (World.block_lt_of_cell? w _ hw213_2)).trans hw213_2), ((HB.out.cell (World.block_lt_of_cell? w _ hw214_0)).trans hw214_0), ((HB.out.cell (World.block_lt_of_cell? w _ hw214_1)).trans hw214_1), ((HB.out.cell (World.block_lt_of_cell? w _ hw214_2)).trans hw214_2)⟩ (fun hHeld => ?_)
      clear hK K
      refine norm_ (a' := ?_) ?_ ?_
      rotate_left
      · show Act.put _ (some 27) _ = _
        simp only [pq20]
        rfl
      refine pure_ (i := 11) (N := some 28) (v := ?_) (a' := ?_) #[Y20,Y20,Y20,Y20,Y20,Y20,Y20,Y20,Y20,Y20,Y20,Y20,N20,N20,N20,N20,N20,N20,N20,N20,N20,N20,N20,N20,N20] rfl rfl (any_of HT_.out (by kernel_rfl)) (fun _ _ _ h => h) (Or.inl ⟨by rfl, ?_⟩) ?_ ?_; rotate_left; (intro w'; go_simp; with_reducible rfl); rotate_left; (simp only [pq20]; rfl)
      refine pure_ (i := 12) (N := some 29) (v := ?_) (a' := ?_) #[Y20,Y20,Y20,Y20,Y20,Y20,Y20,Y20,Y20,Y20,Y20,Y20,Y20,N20,N20,N20,N20,N20,N20,N20,N20,N20,N20,N20,N20] rfl rfl (any_of HT_.out (by kernel_rfl)) (fun _ _ _ h => h) (Or.inl ⟨by rfl, ?_⟩) ?_ ?_; rotate_left; (intro w'; go_simp; with_reducible rfl); rotate_left; (simp only [pq20]; rfl)
      refine pure_ (i := 13) (N := some 30) (v := undef) (a' := ?_) #[Y20,Y20,Y20,Y20,Y20,Y20,Y20,Y20,Y20,Y20,Y20,Y20,Y20,Y20,N20,N20,N20,N20,N20,N20,N20,N20,N20,N20,N20] rfl rfl (any_of HT_.out (by kernel_rfl)) (fun _ _ _ h => h) (Or.inr ⟨by rfl, rfl⟩) ?_ ?_
      rotate_left
      · simp only [pq20]
        rfl
      refine pure_ (i := 14) (N := some 31) (v := undef) (a' := ?_) #[Y20,Y20,Y20,Y20,Y20,Y20,Y20,Y20,Y20,Y20,Y20,Y20,Y20,Y20,Y20,N20,N20,N20,N20,N20,N20,N20,N20,N20,N20] rfl rfl (any_of HT_.out (by kernel_rfl)) (fun _ _ _ h => h) (Or.inr ⟨by rfl, rfl⟩) ?_ ?_
      rotate_left
      · simp only [pq20]
        rfl
      refine pure_ (i := 15) (N := some 32) (v := undef) (a' := ?_) #[Y20,Y20,Y20,Y20,Y20,Y20,Y20,Y20,Y20,Y20,Y20,Y20,Y20,Y20,Y20,Y20,N20,N20,N20,N20,N20,N20,N20,N20,N20] rfl rfl (any_of HT_.out (by kernel_rfl)) (fun _ _ _ h => h) (Or.inr ⟨by rfl, rfl⟩) ?_ ?_
      rotate_left
      · simp only [pq20]
        rfl
      refine pure_ (i := 16) (N := some 33) (v := undef) (a' := ?_) #[Y20,Y20,Y20,Y20,Y20,Y20,Y20,Y20,Y20,Y20,Y20,Y20,Y20,Y20,Y20,Y20,Y20,N20,N20,N20,N20,N20,N20,N20,N20] rfl rfl (any_of HT_.out (by kernel_rfl)) (fun _ _ _ h => h) (Or.inr ⟨by rfl, rfl⟩) ?_ ?_
      rotate_left
      · simp only [pq20]
        rfl
      refine pure_ (i := 17) (N := some 34) (v := undef) (a' := ?_) #[Y20,Y20,Y20,Y20,Y20,Y20,Y20,Y20,Y20,Y20,Y20,Y20,Y20,Y20,Y20,Y20,Y20,Y20,N20,N20,N20,N20,N20,N20,N20] rfl rfl (any_of HT_.out (by kernel_rfl)) (fun _ _ _ h => h) (Or.inr ⟨by rfl, rfl⟩) ?_ ?_
      rotate_left
      · simp only [pq20]
        rfl
      refine pure_ (i := 18) (N := some 35) (v := undef) (a' := ?_) #[Y20,Y20,Y20,Y20,Y20,Y20,Y20,Y20,Y20,Y20,Y20,Y20,Y20,Y20,Y20,Y20,Y20,Y20,Y20,N20,N20,N20,N20,N20,N20] rfl rfl (any_of HT_.out (by kernel_rfl)) (fun _ _ _ h => h) (Or.inr ⟨by rfl, rfl⟩) ?_ ?_
      rotate_left
      · simp only [pq20]
        rfl
      refine pure_ (i := 19) (N := some 36) (v := undef) (a' := ?_) #[Y20,Y20,Y20,Y20,Y20,Y20,Y20,Y20,Y20,Y20,Y20,Y20,Y20,Y20,Y20,Y20,Y20,Y20,Y20,Y20,N20,N20,N20,N20,N20] rfl rfl (any_of HT_.out (by kernel_rfl)) (fun _ _ _ h => h) (Or.inr ⟨by rfl, rfl⟩) ?_ ?_
      rotate_left
      · simp only [pq20]
        rfl
      refine pure_ (i := 20) (N := some 37) (v := undef) (a' := ?_) #[Y20,Y20,Y20,Y20,Y20,Y20,Y20,Y20,Y20,Y20,Y20,Y20,Y20,Y20,Y20,Y20,Y20,Y20,Y20,Y20,Y20,N20,N20,N20,N20] rfl rfl (any_of HT_.out (by kernel_rfl)) (fun _ _ _ h => h) (Or.inr ⟨by rfl, rfl⟩) ?_ ?_
      rotate_left
      · simp only [pq20]
        rfl
      refine pure_ (i := 21) (N := some 38) (v := undef) (a' := ?_) #[Y20,Y20,Y20,Y20,Y20,Y20,Y20,Y20,Y20,Y20,Y20,Y20,Y20,Y20,Y20,Y20,Y20,Y20,Y20,Y20,Y20,Y20,N20,N20,N20] rfl rfl (any_of HT_.out (by kernel_rfl)) (fun _ _ _ h => h) (Or.inr ⟨by rfl, rfl⟩) ?_ ?_
      rotate_left
      · simp only [pq20]
        rfl
      refine pure_ (i := 22) (N := some 39) (v := undef) (a' := ?_) #[Y20,Y20,Y20,Y20,Y20,Y20,Y20,Y20,Y20,Y20,Y20,Y20,Y20,Y20,Y20,Y20,Y20,Y20,Y20,Y20,Y20,Y20,Y20,N20,N20] rfl rfl (any_of HT_.out (by kernel_rfl)) (fun _ _ _ h => h) (Or.inr ⟨by rfl, rfl⟩) ?_ ?_
      rotate_left
      · simp only [pq20]
        rfl
      refine pure_ (i := 23) (N := some 40) (v := undef) (a' := ?_) #[Y20,Y20,Y20,Y20,Y20,Y20,Y20,Y20,Y20,Y20,Y20,Y20,Y20,Y20,Y20,Y20,Y20,Y20,Y20,Y20,Y20,Y20,Y20,Y20,N20] rfl rfl (any_of HT_.out (by kernel_rfl)) (fun _ _ _ h => h) (Or.inr ⟨by rfl, rfl⟩) ?_ ?_
      rotate_left
      · simp only [pq20]
        rfl
      refine pure_ (i := 24) (N := some 41) (v := ?_) (a' := ?_) #[Y20,Y20,Y20,Y20,Y20,Y20,Y20,Y20,Y20,Y20,Y20,Y20,Y20,Y20,Y20,Y20,Y20,Y20,Y20,Y20,Y20,Y20,Y20,Y20,Y20] rfl rfl (any_of HT_.out (by kernel_rfl)) (fun _ _ _ h => h) (Or.inl ⟨by rfl, ?_⟩) ?_ ?_; rotate_left; (intro w'; go_simp; with_reducible rfl); rotate_left; (simp only [pq20]; rfl)
      refine done_ (done_of HT_.out (by kernel_rfl)) ?_
      try go_wp2
      go_ret
      exact ⟨by first | rfl | (simp [errW_none, errW_some] <;> rfl) | (simp [*, errW_none, errW_some] <;> rfl), by repeat (first | (with_reducible first | exact HB.out | apply below_alloc | apply pw_below_drewN | apply below_drew1) | exact HB.out)⟩
    rw [if_pos c8] at H
    have c8b0 : (t215 == 0) = true := beq_iff_eq.mpr c8
    have c8b1 : (t215 != 0) = false := bne_eq_false_iff_eq.mpr c8
    clear c8
    by_cases c9 : ((rd_T36 l0 x5_1).f1) = ((rd_T36 l1 x5_1).f1)
    rotate_left
    · rw [if_neg c9] at H
      have c9b0 : (((rd_T36 l0 x5_1).f1) == ((rd_T36 l1 x5_1).f1)) = false := beq_eq_false_iff_ne.mpr c9
      have c9b1 : (((rd_T36 l0 x5_1).f1) != ((rd_T36 l1 x5_1).f1)) = true := bne_iff_ne.mpr c9
      obtain rfl := Option.some.inj H
      try go_wp2
      have n0_ := Aside0.mk (below_drew1 HB.out)
      clear HB
      have HB := n0_
      clear n0_
      have p213 : 0 ≤ (x5_1 : Int) := of_decide_eq_true (by first | (with_reducible assumption) | assumption)
      have q213 : x5_1 < (l0.length : Int) := of_decide_eq_true (by first | (with_reducible assumption) | assumption)
      obtain ⟨ad213, A213_1, c213_1, e213, hx213_0, hx213_1, hx213_2, hl213_1, hi213_1⟩ := at_T36 HR0.out x5_1 p213 q213
      have hw213_2 := hx213_2
      have hw213_1 := hx213_1
      have hw213_0 := hx213_0
      cases e213
      replace hx213_0 := (HB.out.cell (World.block_lt_of_cell? w _ hx213_0)).trans hx213_0
      replace hx213_1 := (HB.out.cell (World.block_lt_of_cell? w _ hx213_1)).trans hx213_1
      replace hx213_2 := (HB.out.cell (World.block_lt_of_cell? w _ hx213_2)).trans hx213_2
      have HR213_1 := Aside0.mk hi213_1
      have HC213_1 := Aside0.mk hl213_1
      clear hi213_1 hl213_1
      replace p213 := eq_true p213
      replace q213 := eq_true q213
      have p214 : 0 ≤ (x5_1 : Int) := of_decide_eq_true (by first | (with_reducible assumption) | assumption)
      have q214 : x5_1 < (l1.length : Int) := of_decide_eq_true (by first | (with_reducible assumption) | assumption)
      obtain ⟨ad214, A214_1, c214_1, e214, hx214_0, hx214_1, hx214_2, hl214_1, hi214_1⟩ := at_T36 HR1.out x5_1 p214 q214
      have hw214_2 := hx214_2
      have hw214_1 := hx214_1
      have hw214_0 := hx214_0
      cases e214
      replace hx214_0 := (HB.out.cell (World.block_lt_of_cell? w _ hx214_0)).trans hx214_0
      replace hx214_1 := (HB.out.cell (World.block_lt_of_cell? w _ hx214_1)).trans hx214_1
      replace hx214_2 := (HB.out.cell (World.block_lt_of_cell? w _ hx214_2)).trans hx214_2
      have HR214_1 := Aside0.mk hi214_1
      have HC214_1 := Aside0.mk hl214_1
      clear hi214_1 hl214_1
      replace p214 := eq_true p214
      replace q214 := eq_true q214
      have p216 : 0 ≤ (x5_1 : Int) := of_decide_eq_true (by first | (with_reducible assumption) | assumption)
      have q216 : x5_1 < (l0.length : Int) := of_decide_eq_true (by first | (with_reducible assumption) | assumption)
      obtain ⟨ad216, A216_1, c216_1, e216, hx216_0, hx216_1, hx216_2, hl216_1, hi216_1⟩ := at_T36 HR0.out x5_1 p216 q216
      have hw216_2 := hx216_2
      have hw216_1 := hx216_1
      have hw216_0 := hx216_0
      obtain rfl : ad213 = ad216 := (by injection e216)
      replace hx216_0 := (HB.out.cell (World.block_lt_of_cell? w _ hx216_0)).trans hx216_0
      replace hx216_1 := (HB.out.cell (World.block_lt_of_cell? w _ hx216_1)).trans hx216_1
      replace hx216_2 := (HB.out.cell (World.block_lt_of_cell? w _ hx216_2)).trans hx216_2
      have HR216_1 := Aside0.mk hi216_1
      have HC216_1 := Aside0.mk hl216_1
      clear hi216_1 hl216_1
      replace p216 := eq_true p216
      replace q216 := eq_true q216
      have p217 : 0 ≤ (x5_1 : Int) := of_decide_eq_true (by first | (with_reducible assumption) | assumption)
      have q217 : x5_1 < (l1.length : Int) := of_decide_eq_true (by first | (with_reducible assumption) | assumption)
      obtain ⟨ad217, A217_1, c217_1, e217, hx217_0, hx217_1, hx217_2, hl217_1, hi217_1⟩ := at_T36 HR1.out x5_1 p217 q217
      have hw217_2 := hx217_2
      have hw217_1 := hx217_1
      have hw217_0 := hx217_0
      obtain rfl : ad214 = ad217 := (by injection e217)
      replace hx217_0 := (HB.out.cell (World.block_lt_of_cell? w _ hx217_0)).trans hx217_0
      replace hx217_1 := (HB.out.cell (World.block_lt_of_cell? w _ hx217_1)).trans hx217_1
      replace hx217_2 := (HB.out.cell (World.block_lt_of_cell? w _ hx217_2)).trans hx217_2
      have HR217_1 := Aside0.mk hi217_1
      have HC217_1 := Aside0.mk hl217_1
      clear hi217_1 hl217_1
      replace p217 := eq_true p217
      replace q217 := eq_true q217
      refine start_ (n := 25) (S := fun w' => w'.cell? (ad213.add ((x5_1).toNat * 3)) = some (.int .i64 ((rd_T36 l0 x5_1).f0.f0)) ∧ w'.cell? ⟨(ad213.add ((x5_1).toNat * 3)).block, (ad213.add ((x5_1).toNat * 3)).off + 1, none⟩ = some (.slice A213_1 ((rd_T36 l0 x5_1).f0.f1).length c213_1) ∧ w'.cell? ⟨(ad213.add ((x5_1).toNat * 3)).block, (ad213.add ((x5_1).toNat * 3)).off + 2, none⟩ = some (.int .i64 ((rd_T36 l0 x5_1).f1)) ∧ w'.cell? (ad214.add ((x5_1).toNat * 3)) = some (.int .i64 ((rd_T36 l1 x5_1).f0.f0)) ∧ w'.cell? ⟨(ad214.add ((x5_1).toNat * 3)).block, (ad214.add ((x5_1).toNat * 3)).off + 1, none⟩ = some (.slice A214_1 ((rd_T36 l1 x5_1).f0.f1).length c214_1) ∧ w'.cell? ⟨(ad214.add ((x5_1).toNat * 3)).block, (ad214.add ((x5_1).toNat * 3)).off + 2, none⟩ = some (.int .i64 ((rd_T36 l1 x5_1).f1)) ∧ w'.cell? (ad213.add ((x5_1).toNat * 3)) = some (.int .i64 ((rd_T36 l0 x5_1).f0.f0)) ∧ w'.cell? ⟨(ad213.add ((x5_1).toNat * 3)).block, (ad213.add ((x5_1).toNat * 3)).off + 1, none⟩ = some (.slice A216_1 ((rd_T36 l0 x5_1).f0.f1).length c216_1) ∧ w'.cell? ⟨(ad213.add ((x5_1).toNat * 3)).block, (ad213.add ((x5_1).toNat * 3)).off + 2, none⟩ = some (.int .i64 ((rd_T36 l0 x5_1).f1)) ∧ w'.cell? (ad214.add ((x5_1).toNat * 3)) = some (.int .i64 ((rd_T36 l1 x5_1).f0.f0)) ∧ w'.cell? ⟨(ad214.add ((x5_1).toNat * 3)).block, (ad214.add ((x5_1).toNat * 3)).off + 1, none⟩ = some (.slice A217_1 ((rd_T36 l1 x5_1).f0.f1).length c217_1) ∧ w'.cell? ⟨(ad214.add ((x5_1).toNat * 3)).block, (ad214.add ((x5_1).toNat * 3)).off + 2, none⟩ = some (.int .i64 ((rd_T36 l1 x5_1).f1))) (ds := []) #[N20,N20,N20,N20,N20,N20,N20,N20,N20,N20,N20,N20,N20,N20,N20,N20,N20,N20,N20,N20,N20,N20,N20,N20,N20] (by kernel_rfl) rfl rfl ⟨((HB.out.cell (World.block_lt_of_cell? w _ hw213_0)).trans hw213_0), ((HB.out.cell (World.block_lt_of_cell? w _ hw213_1)).trans hw213_1), ((HB.out.cell (World.block_lt_of_cell? w _ hw213_2)).trans hw213_2), ((HB.out.cell (World.block_lt_of_cell? w _ hw214_0)).trans hw214_0), ((HB.out.cell (World.block_lt_of_cell? w _ hw214_1)).trans hw214_1), ((HB.out.cell (World.block_lt_of_cell? w _ hw214_2)).trans hw214_2), ((HB.out.cell (World.block_lt_of_cell? w _ hw216_0)).trans hw216_0), ((HB.out.cell (World.block_lt_of_cell? w _ hw216_1)).trans hw216_1), ((HB.out.cell (World.block_lt_of_cell? w _ hw216_2)).trans hw216_2), ((HB.out.cell (World.block_lt_of_cell? w _ hw217_0)).trans hw217_0), ((HB.out.cell (World.block_lt_of_cell? w _ hw217_1)).trans hw217_1), ((HB.out.cell (World.block_lt_of_cell? w _ hw217_2)).trans hw217_2)⟩ (fun hHeld => ?_); refine with_tabW interlocutorref10_Same.tab6 interlocutorref10_Same.bits6 (fun HT_ HW_ => ?_)
      generalize wr.drew = w12 at HB HR213_1 HR214_1 HR216_1 HR217_1 hx213_0 hx213_1 hx213_2 hx214_0 hx214_1 hx214_2 hx216_0 hx216_1 hx216_2 hx217_0 hx217_1 hx217_2 hHeld ⊢
      refine pure_ (i := 0) (N := some 17) (v := ?_) (a' := ?_) #[Y20,N20,N20,N20,N20,N20,N20,N20,N20,N20,N20,N20,N20,N20,N20,N20,N20,N20,N20,N20,N20,N20,N20,N20,N20] rfl rfl (any_of HT_.out (by kernel_rfl)) (fun _ _ _ h => h) (Or.inl ⟨by rfl, ?_⟩) ?_ ?_; rotate_left; (intro w'; go_simp; with_reducible rfl); rotate_left; (simp only [pq20]; rfl)
      refine pure_ (i := 1) (N := some 18) (v := ?_) (a' := ?_) #[Y20,Y20,N20,N20,N20,N20,N20,N20,N20,N20,N20,N20,N20,N20,N20,N20,N20,N20,N20,N20,N20,N20,N20,N20,N20] rfl rfl (any_of HT_.out (by kernel_rfl)) (fun _ _ _ h => h) (Or.inl ⟨by rfl, ?_⟩) ?_ ?_; rotate_left; (intro w'; go_simp; with_reducible rfl); rotate_left; (simp only [pq20]; rfl)
      refine pure_ (i := 2) (N := some 19) (v := ?_) (a' := ?_) #[Y20,Y20,Y20,N20,N20,N20,N20,N20,N20,N20,N20,N20,N20,N20,N20,N20,N20,N20,N20,N20,N20,N20,N20,N20,N20] rfl rfl (any_of HT_.out (by kernel_rfl)) (fun _ _ _ h => h) (Or.inl ⟨by rfl, ?_⟩) ?_ ?_; rotate_left; (intro w'; go_simp; with_reducible rfl); rotate_left; (simp only [pq20]; rfl)
      refine pure_ (i := 3) (N := some 20) (v := ?_) (a' := ?_) #[Y20,Y20,Y20,Y20,N20,N20,N20,N20,N20,N20,N20,N20,N20,N20,N20,N20,N20,N20,N20,N20,N20,N20,N20,N20,N20] rfl rfl (any_of HT_.out (by kernel_rfl)) (fun _ _ _ h => h) (Or.inl ⟨by rfl, ?_⟩) ?_ ?_; rotate_left; (intro w'; go_simp; with_reducible rfl); rotate_left; (simp only [pq20]; rfl)
      refine pure_ (i := 5) (N := some 22) (v := ?_) (a' := ?_) #[Y20,Y20,Y20,Y20,N20,Y20,N20,N20,N20,N20,N20,N20,N20,N20,N20,N20,N20,N20,N20,N20,N20,N20,N20,N20,N20] rfl rfl (any_of HT_.out (by kernel_rfl)) (fun _ _ _ h => h) (Or.inl ⟨by rfl, ?_⟩) ?_ ?_; rotate_left; (intro w'; go_simp; with_reducible rfl); rotate_left; (simp only [pq20]; rfl)
      refine pure_ (i := 6) (N := some 23) (v := ?_) (a' := ?_) #[Y20,Y20,Y20,Y20,N20,Y20,Y20,N20,N20,N20,N20,N20,N20,N20,N20,N20,N20,N20,N20,N20,N20,N20,N20,N20,N20] rfl rfl (any_of HT_.out (by kernel_rfl)) (fun _ _ _ h => h) (Or.inl ⟨by rfl, ?_⟩) ?_ ?_; rotate_left; (intro w'; go_simp; with_reducible rfl); rotate_left; (simp only [pq20]; rfl)
      refine pure_ (i := 7) (N := some 24) (v := ?_) (a' := ?_) #[Y20,Y20,Y20,Y20,N20,Y20,Y20,Y20,N20,N20,N20,N20,N20,N20,N20,N20,N20,N20,N20,N20,N20,N20,N20,N20,N20] rfl rfl (any_of HT_.out (by kernel_rfl)) (fun _ _ _ h => h) (Or.inl ⟨by rfl, ?_⟩) ?_ ?_; rotate_left; (intro w'; go_simp; with_reducible rfl); rotate_left; (simp only [pq20]; rfl)
      refine pure_ (i := 8) (N := some 25) (v := ?_) (a' := ?_) #[Y20,Y20,Y20,Y20,N20,Y20,Y20,Y20,Y20,N20,N20,N20,N20,N20,N20,N20,N20,N20,N20,N20,N20,N20,N20,N20,N20] rfl rfl (any_of HT_.out (by kernel_rfl)) (fun _ _ _ h => h) (Or.inl ⟨by rfl, ?_⟩) ?_ ?_; rotate_left; (intro w'; go_simp; with_reducible rfl); rotate_left; (simp only [pq20]; rfl)
      refine take_ (i := 4) (N := some 21) (v := ?_) (a' := ?_) #[Y20,Y20,Y20,Y20,Y20,Y20,Y20,Y20,Y20,N20,N20,N20,N20,N20,N20,N20,N20,N20,N20,N20,N20,N20,N20,N20,N20] rfl rfl (take_ofW HT_.out HW_.out (by kernel_rfl)) (fun _ _ _ h => h) (Or.inl ⟨by rfl, ?_⟩) hHeld ?_ ?_
      rotate_left
      · rintro w' ⟨s0, s1, s2, s3, s4, s5, s6, s7, s8, s9, s10, s11⟩
        go_simp
        with_reducible rfl
      rotate_left
      · simp only [pq20]
        rfl
      refine take_ (i := 9) (N := some 26) (v := ?_) (a' := ?_) #[Y20,Y20,Y20,Y20,Y20,Y20,Y20,Y20,Y20,Y20,N20,N20,N20,N20,N20,N20,N20,N20,N20,N20,N20,N20,N20,N20,N20] rfl rfl (take_ofW HT_.out HW_.out (by kernel_rfl)) (fun _ _ _ h => h) (Or.inl ⟨by rfl, ?_⟩) hHeld ?_ ?_
      rotate_left
      · rintro w' ⟨s0, s1, s2, s3, s4, s5, s6, s7, s8, s9, s10, s11⟩
        go_simp
        with_reducible rfl
      rotate_left
      · simp only [pq20]
        rfl
      refine one_ (i := 10) (N := some 27) #[Y20,Y20,Y20,Y20,Y20,Y20,Y20,Y20,Y20,Y20,Y20,N20,N20,N20,N20,N20,N20,N20,N20,N20,N20,N20,N20,N20,N20] rfl rfl (one_of HT_.out (by kernel_rfl)) (by decide) (fun K hK => ?_)
      refine goes_ Tryd.func15 (by kernel_rfl) rfl #[.agg #[.int .i64 ((rd_T36 l0 x5_1).f0.f0), .slice A213_1 ((rd_T36 l0 x5_1).f0.f1).length c213_1], .agg #[.int .i64 ((rd_T36 l1 x5_1).f0.f0), .slice A214_1 ((rd_T36 l1 x5_1).f0.f1).length c214_1]] (by rfl) rfl rfl (by (try simp only [List.map_toArray, List.map_cons, List.map_nil]); first | done | rfl | (simp only [List.length_drop, List.length_take]; rfl)) ?_
      with_reducible refine (interlocutorref10_Cmp.calls k1 ((rd_T36 l0 x5_1).f0.f0) _ _ ((rd_T36 l0 x5_1).f0.f1) ((rd_T36 l1 x5_1).f0.f0) _ _ ((rd_T36 l1 x5_1).f0.f1) t215 _ ?side1 ?side2 ?side3 ?side4 A7.out).mono ?_
      (case side1 => repeat (first | exact (Kd.C_below HR213_1.out HB.out) | (with_reducible refine Kd.C_alloc ?_ _) | (with_reducible refine Kd.C_drewN ?_ _) | (with_reducible refine Kd.C_drew ?_)))
      (case side2 => exact HC213_1.out)
      (case side3 => repeat (first | exact (Kd.C_below HR214_1.out HB.out) | (with_reducible refine Kd.C_alloc ?_ _) | (with_reducible refine Kd.C_drewN ?_ _) | (with_reducible refine Kd.C_drew ?_)))
      (case side4 => exact HC214_1.out)
      rintro e w13 ⟨rfl, hb⟩
      refine ⟨_, rfl, ?_⟩
      have n0_ := Aside0.mk (below_step (by repeat (first | (with_reducible first | exact HB.out | apply below_alloc | apply pw_below_drewN | apply below_drew1) | exact HB.out)) hb)
      clear HB
      have HB := n0_
      clear n0_
      (try clear hb)
      (try clear hb2)
      (try clear hk)
      (try clear hi)
      refine hK.out _ _ ⟨((HB.out.cell (World.block_lt_of_cell? w _ hw213_0)).trans hw213_0), ((HB.out.cell (World.block_lt_of_cell? w _ hw213_1)).trans hw213_1), ((HB.out.cell (World.block_lt_of_cell? w _ hw213_2)).trans hw213_2), ((HB.out.cell (World.block_lt_of_cell? w _ hw214_0)).trans hw214_0), ((HB.out.cell (World.block_lt_of_cell? w _ hw214_1)).trans hw214_1), ((HB.out.cell (World.block_lt_of_cell? w _ hw214_2)).trans hw214_2), ((HB.out.cell (World.block_lt_of_cell? w _ hw216_0)).trans hw216_0), ((HB.out.cell (World.block_lt_of_cell? w _ hw216_1)).trans hw216_1), ((HB.out.cell (World.block_lt_of_cell? w _ hw216_2)).trans hw216_2), ((HB.out.cell (World.block_lt_of_cell? w _ hw217_0)).trans hw217_0), ((HB.out.cell (World.block_lt_of_cell? w _ hw217_1)).trans hw217_1), ((HB.out.cell (World.block_lt_of_cell? w _ hw217_2)).trans hw217_2)⟩ (fun hHeld => ?_)
      clear hK K
      refine norm_ (a' := ?_) ?_ ?_
      rotate_left
      · show Act.put _ (some 27) _ = _
        simp only [pq20]
        rfl
      refine pure_ (i := 11) (N := some 28) (v := ?_) (a' := ?_) #[Y20,Y20,Y20,Y20,Y20,Y20,Y20,Y20,Y20,Y20,Y20,Y20,N20,N20,N20,N20,N20,N20,N20,N20,N20,N20,N20,N20,N20] rfl rfl (any_of HT_.out (by kernel_rfl)) (fun _ _ _ h => h) (Or.inl ⟨by rfl, ?_⟩) ?_ ?_; rotate_left; (intro w'; go_simp; with_reducible rfl); rotate_left; (simp only [pq20]; rfl)
      refine pure_ (i := 12) (N := some 29) (v := ?_) (a' := ?_) #[Y20,Y20,Y20,Y20,Y20,Y20,Y20,Y20,Y20,Y20,Y20,Y20,Y20,N20,N20,N20,N20,N20,N20,N20,N20,N20,N20,N20,N20] rfl rfl (any_of HT_.out (by kernel_rfl)) (fun _ _ _ h => h) (Or.inl ⟨by rfl, ?_⟩) ?_ ?_; rotate_left; (intro w'; go_simp; with_reducible rfl); rotate_left; (simp only [pq20]; rfl)
      refine pure_ (i := 13) (N := some 30) (v := ?_) (a' := ?_) #[Y20,Y20,Y20,Y20,Y20,Y20,Y20,Y20,Y20,Y20,Y20,Y20,Y20,Y20,N20,N20,N20,N20,N20,N20,N20,N20,N20,N20,N20] rfl rfl (any_of HT_.out (by kernel_rfl)) (fun _ _ _ h => h) (Or.inl ⟨by rfl, ?_⟩) ?_ ?_; rotate_left; (intro w'; go_simp; with_reducible rfl); rotate_left; (simp only [pq20]; rfl)
      refine pure_ (i := 14) (N := some 31) (v := ?_) (a' := ?_) #[Y20,Y20,Y20,Y20,Y20,Y20,Y20,Y20,Y20,Y20,Y20,Y20,Y20,Y20,Y20,N20,N20,N20,N20,N20,N20,N20,N20,N20,N20] rfl rfl (any_of HT_.out (by kernel_rfl)) (fun _ _ _ h => h) (Or.inl ⟨by rfl, ?_⟩) ?_ ?_; rotate_left; (intro w'; go_simp; with_reducible rfl); rotate_left; (simp only [pq20]; rfl)
      refine pure_ (i := 15) (N := some 32) (v := ?_) (a' := ?_) #[Y20,Y20,Y20,Y20,Y20,Y20,Y20,Y20,Y20,Y20,Y20,Y20,Y20,Y20,Y20,Y20,N20,N20,N20,N20,N20,N20,N20,N20,N20] rfl rfl (any_of HT_.out (by kernel_rfl)) (fun _ _ _ h => h) (Or.inl ⟨by rfl, ?_⟩) ?_ ?_; rotate_left; (intro w'; go_simp; with_reducible rfl); rotate_left; (simp only [pq20]; rfl)
      refine pure_ (i := 16) (N := some 33) (v := ?_) (a' := ?_) #[Y20,Y20,Y20,Y20,Y20,Y20,Y20,Y20,Y20,Y20,Y20,Y20,Y20,Y20,Y20,Y20,Y20,N20,N20,N20,N20,N20,N20,N20,N20] rfl rfl (any_of HT_.out (by kernel_rfl)) (fun _ _ _ h => h) (Or.inl ⟨by rfl, ?_⟩) ?_ ?_; rotate_left; (intro w'; go_simp; with_reducible rfl); rotate_left; (simp only [pq20]; rfl)
      refine pure_ (i := 18) (N := some 35) (v := ?_) (a' := ?_) #[Y20,Y20,Y20,Y20,Y20,Y20,Y20,Y20,Y20,Y20,Y20,Y20,Y20,Y20,Y20,Y20,Y20,N20,Y20,N20,N20,N20,N20,N20,N20] rfl rfl (any_of HT_.out (by kernel_rfl)) (fun _ _ _ h => h) (Or.inl ⟨by rfl, ?_⟩) ?_ ?_; rotate_left; (intro w'; go_simp; with_reducible rfl); rotate_left; (simp only [pq20]; rfl)
      refine pure_ (i := 19) (N := some 36) (v := ?_) (a' := ?_) #[Y20,Y20,Y20,Y20,Y20,Y20,Y20,Y20,Y20,Y20,Y20,Y20,Y20,Y20,Y20,Y20,Y20,N20,Y20,Y20,N20,N20,N20,N20,N20] rfl rfl (any_of HT_.out (by kernel_rfl)) (fun _ _ _ h => h) (Or.inl ⟨by rfl, ?_⟩) ?_ ?_; rotate_left; (intro w'; go_simp; with_reducible rfl); rotate_left; (simp only [pq20]; rfl)
      refine pure_ (i := 20) (N := some 37) (v := ?_) (a' := ?_) #[Y20,Y20,Y20,Y20,Y20,Y20,Y20,Y20,Y20,Y20,Y20,Y20,Y20,Y20,Y20,Y20,Y20,N20,Y20,Y20,Y20,N20,N20,N20,N20] rfl rfl (any_of HT_.out (by kernel_rfl)) (fun _ _ _ h => h) (Or.inl ⟨by rfl, ?_⟩) ?_ ?_; rotate_left; (intro w'; go_simp; with_reducible rfl); rotate_left; (simp only [pq20]; rfl)
      refine pure_ (i := 21) (N := some 38) (v := ?_) (a' := ?_) #[Y20,Y20,Y20,Y20,Y20,Y20,Y20,Y20,Y20,Y20,Y20,Y20,Y20,Y20,Y20,Y20,Y20,N20,Y20,Y20,Y20,Y20,N20,N20,N20] rfl rfl (any_of HT_.out (by kernel_rfl)) (fun _ _ _ h => h) (Or.inl ⟨by rfl, ?_⟩) ?_ ?_; rotate_left; (intro w'; go_simp; with_reducible rfl); rotate_left; (simp only [pq20]; rfl)
      refine take_ (i := 17) (N := some 34) (v := ?_) (a' := ?_) #[Y20,Y20,Y20,Y20,Y20,Y20,Y20,Y20,Y20,Y20,Y20,Y20,Y20,Y20,Y20,Y20,Y20,Y20,Y20,Y20,Y20,Y20,N20,N20,N20] rfl rfl (take_ofW HT_.out HW_.out (by kernel_rfl)) (fun _ _ _ h => h) (Or.inl ⟨by rfl, ?_⟩) hHeld ?_ ?_
      rotate_left
      · rintro w' ⟨s0, s1, s2, s3, s4, s5, s6, s7, s8, s9, s10, s11⟩
        go_simp
        with_reducible rfl
      rotate_left
      · simp only [pq20]
        rfl
      refine take_ (i := 22) (N := some 39) (v := ?_) (a' := ?_) #[Y20,Y20,Y20,Y20,Y20,Y20,Y20,Y20,Y20,Y20,Y20,Y20,Y20,Y20,Y20,Y20,Y20,Y20,Y20,Y20,Y20,Y20,Y20,N20,N20] rfl rfl (take_ofW HT_.out HW_.out (by kernel_rfl)) (fun _ _ _ h => h) (Or.inl ⟨by rfl, ?_⟩) hHeld ?_ ?_
      rotate_left
      · rintro w' ⟨s0, s1, s2, s3, s4, s5, s6, s7, s8, s9, s10, s11⟩
        go_simp
        with_reducible rfl
      rotate_left
      · simp only [pq20]
        rfl
      refine pure_ (i := 23) (N := some 40) (v := ?_) (a' := ?_) #[Y20,Y20,Y20,Y20,Y20,Y20,Y20,Y20,Y20,Y20,Y20,Y20,Y20,Y20,Y20,Y20,Y20,Y20,Y20,Y20,Y20,Y20,Y20,Y20,N20] rfl rfl (any_of HT_.out (by kernel_rfl)) (fun _ _ _ h => h) (Or.inl ⟨by rfl, ?_⟩) ?_ ?_; rotate_left; (intro w'; go_simp; with_reducible rfl); rotate_left; (simp only [pq20]; rfl)
      refine pure_ (i := 24) (N := some 41) (v := ?_) (a' := ?_) #[Y20,Y20,Y20,Y20,Y20,Y20,Y20,Y20,Y20,Y20,Y20,Y20,Y20,Y20,Y20,Y20,Y20,Y20,Y20,Y20,Y20,Y20,Y20,Y20,Y20] rfl rfl (any_of HT_.out (by kernel_rfl)) (fun _ _ _ h => h) (Or.inl ⟨by rfl, ?_⟩) ?_ ?_; rotate_left; (intro w'; go_simp; with_reducible rfl); rotate_left; (simp only [pq20]; rfl)
      refine done_ (done_of HT_.out (by kernel_rfl)) ?_
      try go_wp2
      go_ret
      exact ⟨by first | rfl | (simp [errW_none, errW_some] <;> rfl) | (simp [*, errW_none, errW_some] <;> rfl), by repeat (first | (with_reducible first | exact HB.out | apply below_alloc | apply pw_below_drewN | apply below_drew1) | exact HB.out)⟩
    rw [if_pos c9] at H
    have c9b0 : (((rd_T36 l0 x5_1).f1) == ((rd_T36 l1 x5_1).f1)) = true := beq_iff_eq.mpr c9
    have c9b1 : (((rd_T36 l0 x5_1).f1) != ((rd_T36 l1 x5_1).f1)) = false := bne_eq_false_iff_eq.mpr c9
    clear c9
    have H' := Aside0.mk H
    clear H
    try go_wp2
    have n0_ := Aside0.mk (below_drew1 HB.out)
    clear HB
    have HB := n0_
    clear n0_
    have p213 : 0 ≤ (x5_1 : Int) := of_decide_eq_true (by first | (with_reducible assumption) | assumption)
    have q213 : x5_1 < (l0.length : Int) := of_decide_eq_true (by first | (with_reducible assumption) | assumption)
    obtain ⟨ad213, A213_1, c213_1, e213, hx213_0, hx213_1, hx213_2, hl213_1, hi213_1⟩ := at_T36 HR0.out x5_1 p213 q213
    have hw213_2 := hx213_2
    have hw213_1 := hx213_1
    have hw213_0 := hx213_0
    cases e213
    replace hx213_0 := (HB.out.cell (World.block_lt_of_cell? w _ hx213_0)).trans hx213_0
    replace hx213_1 := (HB.out.cell (World.block_lt_of_cell? w _ hx213_1)).trans hx213_1
    replace hx213_2 := (HB.out.cell (World.block_lt_of_cell? w _ hx213_2)).trans hx213_2
    have HR213_1 := Aside0.mk hi213_1
    have HC213_1 := Aside0.mk hl213_1
    clear hi213_1 hl213_1
    replace p213 := eq_true p213
    replace q213 := eq_true q213
    have p214 : 0 ≤ (x5_1 : Int) := of_decide_eq_true (by first | (with_reducible assumption) | assumption)
    have q214 : x5_1 < (l1.length : Int) := of_decide_eq_true (by first | (with_reducible assumption) | assumption)
    obtain ⟨ad214, A214_1, c214_1, e214, hx214_0, hx214_1, hx214_2, hl214_1, hi214_1⟩ := at_T36 HR1.out x5_1 p214 q214
    have hw214_2 := hx214_2
    have hw214_1 := hx214_1
    have hw214_0 := hx214_0
    cases e214
    replace hx214_0 := (HB.out.cell (World.block_lt_of_cell? w _ hx214_0)).trans hx214_0
    replace hx214_1 := (HB.out.cell (World.block_lt_of_cell? w _ hx214_1)).trans hx214_1
    replace hx214_2 := (HB.out.cell (World.block_lt_of_cell? w _ hx214_2)).trans hx214_2
    have HR214_1 := Aside0.mk hi214_1
    have HC214_1 := Aside0.mk hl214_1
    clear hi214_1 hl214_1
    replace p214 := eq_true p214
    replace q214 := eq_true q214
    have p216 : 0 ≤ (x5_1 : Int) := of_decide_eq_true (by first | (with_reducible assumption) | assumption)
    have q216 : x5_1 < (l0.length : Int) := of_decide_eq_true (by first | (with_reducible assumption) | assumption)
    obtain ⟨ad216, A216_1, c216_1, e216, hx216_0, hx216_1, hx216_2, hl216_1, hi216_1⟩ := at_T36 HR0.out x5_1 p216 q216
    have hw216_2 := hx216_2
    have hw216_1 := hx216_1
    have hw216_0 := hx216_0
    obtain rfl : ad213 = ad216 := (by injection e216)
    replace hx216_0 := (HB.out.cell (World.block_lt_of_cell? w _ hx216_0)).trans hx216_0
    replace hx216_1 := (HB.out.cell (World.block_lt_of_cell? w _ hx216_1)).trans hx216_1
    replace hx216_2 := (HB.out.cell (World.block_lt_of_cell? w _ hx216_2)).trans hx216_2
    have HR216_1 := Aside0.mk hi216_1
    have HC216_1 := Aside0.mk hl216_1
    clear hi216_1 hl216_1
    replace p216 := eq_true p216
    replace q216 := eq_true q216
    have p217 : 0 ≤ (x5_1 : Int) := of_decide_eq_true (by first | (with_reducible assumption) | assumption)
    have q217 : x5_1 < (l1.length : Int) := of_decide_eq_true (by first | (with_reducible assumption) | assumption)
    obtain ⟨ad217, A217_1, c217_1, e217, hx217_0, hx217_1, hx217_2, hl217_1, hi217_1⟩ := at_T36 HR1.out x5_1 p217 q217
    have hw217_2 := hx217_2
    have hw217_1 := hx217_1
    have hw217_0 := hx217_0
    obtain rfl : ad214 = ad217 := (by injection e217)
    replace hx217_0 := (HB.out.cell (World.block_lt_of_cell? w _ hx217_0)).trans hx217_0
    replace hx217_1 := (HB.out.cell (World.block_lt_of_cell? w _ hx217_1)).trans hx217_1
    replace hx217_2 := (HB.out.cell (World.block_lt_of_cell? w _ hx217_2)).trans hx217_2
    have HR217_1 := Aside0.mk hi217_1
    have HC217_1 := Aside0.mk hl217_1
    clear hi217_1 hl217_1
    replace p217 := eq_true p217
    replace q217 := eq_true q217
    refine start_ (n := 25) (S := fun w' => w'.cell? (ad213.add ((x5_1).toNat * 3)) = some (.int .i64 ((rd_T36 l0 x5_1).f0.f0)) ∧ w'.cell? ⟨(ad213.add ((x5_1).toNat * 3)).block, (ad213.add ((x5_1).toNat * 3)).off + 1, none⟩ = some (.slice A213_1 ((rd_T36 l0 x5_1).f0.f1).length c213_1) ∧ w'.cell? ⟨(ad213.add ((x5_1).toNat * 3)).block, (ad213.add ((x5_1).toNat * 3)).off + 2, none⟩ = some (.int .i64 ((rd_T36 l0 x5_1).f1)) ∧ w'.cell? (ad214.add ((x5_1).toNat * 3)) = some (.int .i64 ((rd_T36 l1 x5_1).f0.f0)) ∧ w'.cell? ⟨(ad214.add ((x5_1).toNat * 3)).block, (ad214.add ((x5_1).toNat * 3)).off + 1, none⟩ = some (.slice A214_1 ((rd_T36 l1 x5_1).f0.f1).length c214_1) ∧ w'.cell? ⟨(ad214.add ((x5_1).toNat * 3)).block, (ad214.add ((x5_1).toNat * 3)).off + 2, none⟩ = some (.int .i64 ((rd_T36 l1 x5_1).f1)) ∧ w'.cell? (ad213.add ((x5_1).toNat * 3)) = some (.int .i64 ((rd_T36 l0 x5_1).f0.f0)) ∧ w'.cell? ⟨(ad213.add ((x5_1).toNat * 3)).block, (ad213.add ((x5_1).toNat * 3)).off + 1, none⟩ = some (.slice A216_1 ((rd_T36 l0 x5_1).f0.f1).length c216_1) ∧ w'.cell? ⟨(ad213.add ((x5_1).toNat * 3)).block, (ad213.add ((x5_1).toNat * 3)).off + 2, none⟩ = some (.int .i64 ((rd_T36 l0 x5_1).f1)) ∧ w'.cell? (ad214.add ((x5_1).toNat * 3)) = some (.int .i64 ((rd_T36 l1 x5_1).f0.f0)) ∧ w'.cell? ⟨(ad214.add ((x5_1).toNat * 3)).block, (ad214.add ((x5_1).toNat * 3)).off + 1, none⟩ = some (.slice A217_1 ((rd_T36 l1 x5_1).f0.f1).length c217_1) ∧ w'.cell? ⟨(ad214.add ((x5_1).toNat * 3)).block, (ad214.add ((x5_1).toNat * 3)).off + 2, none⟩ = some (.int .i64 ((rd_T36 l1 x5_1).f1))) (ds := []) #[N20,N20,N20,N20,N20,N20,N20,N20,N20,N20,N20,N20,N20,N20,N20,N20,N20,N20,N20,N20,N20,N20,N20,N20,N20] (by kernel_rfl) rfl rfl ⟨((HB.out.cell (World.block_lt_of_cell? w _ hw213_0)).trans hw213_0), ((HB.out.cell (World.block_lt_of_cell? w _ hw213_1)).trans hw213_1), ((HB.out.cell (World.block_lt_of_cell? w _ hw213_2)).trans hw213_2), ((HB.out.cell (World.block_lt_of_cell? w _ hw214_0)).trans hw214_0), ((HB.out.cell (World.block_lt_of_cell? w _ hw214_1)).trans hw214_1), ((HB.out.cell (World.block_lt_of_cell? w _ hw214_2)).trans hw214_2), ((HB.out.cell (World.block_lt_of_cell? w _ hw216_0)).trans hw216_0), ((HB.out.cell (World.block_lt_of_cell? w _ hw216_1)).trans hw216_1), ((HB.out.cell (World.block_lt_of_cell? w _ hw216_2)).trans hw216_2), ((HB.out.cell (World.block_lt_of_cell? w _ hw217_0)).trans hw217_0), ((HB.out.cell (World.block_lt_of_cell? w _ hw217_1)).trans hw217_1), ((HB.out.cell (World.block_lt_of_cell? w _ hw217_2)).trans hw217_2)⟩ (fun hHeld => ?_); refine with_tabW interlocutorref10_Same.tab6 interlocutorref10_Same.bits6 (fun HT_ HW_ => ?_)
    generalize wr.drew = w10 at HB HR213_1 HR214_1 HR216_1 HR217_1 hx213_0 hx213_1 hx213_2 hx214_0 hx214_1 hx214_2 hx216_0 hx216_1 hx216_2 hx217_0 hx217_1 hx217_2 hHeld ⊢
    refine pure_ (i := 0) (N := some 17) (v := ?_) (a' := ?_) #[Y20,N20,N20,N20,N20,N20,N20,N20,N20,N20,N20,N20,N20,N20,N20,N20,N20,N20,N20,N20,N20,N20,N20,N20,N20] rfl rfl (any_of HT_.out (by kernel_rfl)) (fun _ _ _ h => h) (Or.inl ⟨by rfl, ?_⟩) ?_ ?_; rotate_left; (intro w'; go_simp; with_reducible rfl); rotate_left; (simp only [pq20]; rfl)
    refine pure_ (i := 1) (N := some 18) (v := ?_) (a' := ?_) #[Y20,Y20,N20,N20,N20,N20,N20,N20,N20,N20,N20,N20,N20,N20,N20,N20,N20,N20,N20,N20,N20,N20,N20,N20,N20] rfl rfl (any_of HT_.out (by kernel_rfl)) (fun _ _ _ h => h) (Or.inl ⟨by rfl, ?_⟩) ?_ ?_; rotate_left; (intro w'; go_simp; with_reducible rfl); rotate_left; (simp only [pq20]; rfl)
    refine pure_ (i := 2) (N := some 19) (v := ?_) (a' := ?_) #[Y20,Y20,Y20,N20,N20,N20,N20,N20,N20,N20,N20,N20,N20,N20,N20,N20,N20,N20,N20,N20,N20,N20,N20,N20,N20] rfl rfl (any_of HT_.out (by kernel_rfl)) (fun _ _ _ h => h) (Or.inl ⟨by rfl, ?_⟩) ?_ ?_; rotate_left; (intro w'; go_simp; with_reducible rfl); rotate_left; (simp only [pq20]; rfl)
    refine pure_ (i := 3) (N := some 20) (v := ?_) (a' := ?_) #[Y20,Y20,Y20,Y20,N20,N20,N20,N20,N20,N20,N20,N20,N20,N20,N20,N20,N20,N20,N20,N20,N20,N20,N20,N20,N20] rfl rfl (any_of HT_.out (by kernel_rfl)) (fun _ _ _ h => h) (Or.inl ⟨by rfl, ?_⟩) ?_ ?_; rotate_left; (intro w'; go_simp; with_reducible rfl); rotate_left; (simp only [pq20]; rfl)
    refine pure_ (i := 5) (N := some 22) (v := ?_) (a' := ?_) #[Y20,Y20,Y20,Y20,N20,Y20,N20,N20,N20,N20,N20,N20,N20,N20,N20,N20,N20,N20,N20,N20,N20,N20,N20,N20,N20] rfl rfl (any_of HT_.out (by kernel_rfl)) (fun _ _ _ h => h) (Or.inl ⟨by rfl, ?_⟩) ?_ ?_; rotate_left; (intro w'; go_simp; with_reducible rfl); rotate_left; (simp only [pq20]; rfl)
    refine pure_ (i := 6) (N := some 23) (v := ?_) (a' := ?_) #[Y20,Y20,Y20,Y20,N20,Y20,Y20,N20,N20,N20,N20,N20,N20,N20,N20,N20,N20,N20,N20,N20,N20,N20,N20,N20,N20] rfl rfl (any_of HT_.out (by kernel_rfl)) (fun _ _ _ h => h) (Or.inl ⟨by rfl, ?_⟩) ?_ ?_; rotate_left; (intro w'; go_simp; with_reducible rfl); rotate_left; (simp only [pq20]; rfl)
    refine pure_ (i := 7) (N := some 24) (v := ?_) (a' := ?_) #[Y20,Y20,Y20,Y20,N20,Y20,Y20,Y20,N20,N20,N20,N20,N20,N20,N20,N20,N20,N20,N20,N20,N20,N20,N20,N20,N20] rfl rfl (any_of HT_.out (by kernel_rfl)) (fun _ _ _ h => h) (Or.inl ⟨by rfl, ?_⟩) ?_ ?_; rotate_left; (intro w'; go_simp; with_reducible rfl); rotate_left; (simp only [pq20]; rfl)
    refine pure_ (i := 8) (N := some 25) (v := ?_) (a' := ?_) #[Y20,Y20,Y20,Y20,N20,Y20,Y20,Y20,Y20,N20,N20,N20,N20,N20,N20,N20,N20,N20,N20,N20,N20,N20,N20,N20,N20] rfl rfl (any_of HT_.out (by kernel_rfl)) (fun _ _ _ h => h) (Or.inl ⟨by rfl, ?_⟩) ?_ ?_; rotate_left; (intro w'; go_simp; with_reducible rfl); rotate_left; (simp only [pq20]; rfl)
    refine take_ (i := 4) (N := some 21) (v := ?_) (a' := ?_) #[Y20,Y20,Y20,Y20,Y20,Y20,Y20,Y20,Y20,N20,N20,N20,N20,N20,N20,N20,N20,N20,N20,N20,N20,N20,N20,N20,N20] rfl rfl (take_ofW HT_.out HW_.out (by kernel_rfl)) (fun _ _ _ h => h) (Or.inl ⟨by rfl, ?_⟩) hHeld ?_ ?_
    rotate_left
    · rintro w' ⟨s0, s1, s2, s3, s4, s5, s6, s7, s8, s9, s10, s11⟩
      go_simp
      with_reducible rfl
    rotate_left
    · simp only [pq20]
      rfl
    refine take_ (i := 9) (N := some 26) (v := ?_) (a' := ?_) #[Y20,Y20,Y20,Y20,Y20,Y20,Y20,Y20,Y20,Y20,N20,N20,N20,N20,N20,N20,N20,N20,N20,N20,N20,N20,N20,N20,N20] rfl rfl (take_ofW HT_.out HW_.out (by kernel_rfl)) (fun _ _ _ h => h) (Or.inl ⟨by rfl, ?_⟩) hHeld ?_ ?_
    rotate_left
    · rintro w' ⟨s0, s1, s2, s3, s4, s5, s6, s7, s8, s9, s10, s11⟩
      go_simp
      with_reducible rfl
    rotate_left
    · simp only [pq20]
      rfl
    refine one_ (i := 10) (N := some 27) #[Y20,Y20,Y20,Y20,Y20,Y20,Y20,Y20,Y20,Y20,Y20,N20,N20,N20,N20,N20,N20,N20,N20,N20,N20,N20,N20,N20,N20] rfl rfl (one_of HT_.out (by kernel_rfl)) (by decide) (fun K hK => ?_)
    refine goes_ Tryd.func15 (by kernel_rfl) rfl #[.agg #[.int .i64 ((rd_T36 l0 x5_1).f0.f0), .slice A213_1 ((rd_T36 l0 x5_1).f0.f1).length c213_1], .agg #[.int .i64 ((rd_T36 l1 x5_1).f0.f0), .slice A214_1 ((rd_T36 l1 x5_1).f0.f1).length c214_1]] (by rfl) rfl rfl (by (try simp only [List.map_toArray, List.map_cons, List.map_nil]); first | done | rfl | (simp only [List.length_drop, List.length_take]; rfl)) ?_
    with_reducible refine (interlocutorref10_Cmp.calls k1 ((rd_T36 l0 x5_1).f0.f0) _ _ ((rd_T36 l0 x5_1).f0.f1) ((rd_T36 l1 x5_1).f0.f0) _ _ ((rd_T36 l1 x5_1).f0.f1) t215 _ ?side1 ?side2 ?side3 ?side4 A7.out).mono ?_
    (case side1 => repeat (first | exact (Kd.C_below HR213_1.out HB.out) | (with_reducible refine Kd.C_alloc ?_ _) | (with_reducible refine Kd.C_drewN ?_ _) | (with_reducible refine Kd.C_drew ?_)))
    (case side2 => exact HC213_1.out)
    (case side3 => repeat (first | exact (Kd.C_below HR214_1.out HB.out) | (with_reducible refine Kd.C_alloc ?_ _) | (with_reducible refine Kd.C_drewN ?_ _) | (with_reducible refine Kd.C_drew ?_)))
    (case side4 => exact HC214_1.out)
    rintro e w11 ⟨rfl, hb⟩
    refine ⟨_, rfl, ?_⟩
    have n0_ := Aside0.mk (below_step (by repeat (first | (with_reducible first | exact HB.out | apply below_alloc | apply pw_below_drewN | apply below_drew1) | exact HB.out)) hb)
    clear HB
    have HB := n0_
    clear n0_
    (try clear hb)
    (try clear hb2)
    (try clear hk)
    (try clear hi)
    refine hK.out _ _ ⟨((HB.out.cell (World.block_lt_of_cell? w _ hw213_0)).trans hw213_0), ((HB.out.cell (World.block_lt_of_cell? w _ hw213_1)).trans hw213_1), ((HB.out.cell (World.block_lt_of_cell? w _ hw213_2)).trans hw213_2), ((HB.out.cell (World.block_lt_of_cell? w _ hw214_0)).trans hw214_0), ((HB.out.cell (World.block_lt_of_cell? w _ hw214_1)).trans hw214_1), ((HB.out.cell (World.block_lt_of_cell? w _ hw214_2)).trans hw214_2), ((HB.out.cell (World.block_lt_of_cell? w _ hw216_0)).trans hw216_0), ((HB.out.cell (World.block_lt_of_cell? w _ hw216_1)).trans hw216_1), ((HB.out.cell (World.block_lt_of_cell? w _ hw216_2)).trans hw216_2), ((HB.out.cell (World.block_lt_of_cell? w _ hw217_0)).trans hw217_0), ((HB.out.cell (World.block_lt_of_cell? w _ hw217_1)).trans hw217_1), ((HB.out.cell (World.block_lt_of_cell? w _ hw217_2)).trans hw217_2)⟩ (fun hHeld => ?_)
    clear hK K
    refine norm_ (a' := ?_) ?_ ?_
    rotate_left
    · show Act.put _ (some 27) _ = _
      simp only [pq20]
      rfl
    refine pure_ (i := 11) (N := some 28) (v := ?_) (a' := ?_) #[Y20,Y20,Y20,Y20,Y20,Y20,Y20,Y20,Y20,Y20,Y20,Y20,N20,N20,N20,N20,N20,N20,N20,N20,N20,N20,N20,N20,N20] rfl rfl (any_of HT_.out (by kernel_rfl)) (fun _ _ _ h => h) (Or.inl ⟨by rfl, ?_⟩) ?_ ?_; rotate_left; (intro w'; go_simp; with_reducible rfl); rotate_left; (simp only [pq20]; rfl)
    refine pure_ (i := 12) (N := some 29) (v := ?_) (a' := ?_) #[Y20,Y20,Y20,Y20,Y20,Y20,Y20,Y20,Y20,Y20,Y20,Y20,Y20,N20,N20,N20,N20,N20,N20,N20,N20,N20,N20,N20,N20] rfl rfl (any_of HT_.out (by kernel_rfl)) (fun _ _ _ h => h) (Or.inl ⟨by rfl, ?_⟩) ?_ ?_; rotate_left; (intro w'; go_simp; with_reducible rfl); rotate_left; (simp only [pq20]; rfl)
    refine pure_ (i := 13) (N := some 30) (v := ?_) (a' := ?_) #[Y20,Y20,Y20,Y20,Y20,Y20,Y20,Y20,Y20,Y20,Y20,Y20,Y20,Y20,N20,N20,N20,N20,N20,N20,N20,N20,N20,N20,N20] rfl rfl (any_of HT_.out (by kernel_rfl)) (fun _ _ _ h => h) (Or.inl ⟨by rfl, ?_⟩) ?_ ?_; rotate_left; (intro w'; go_simp; with_reducible rfl); rotate_left; (simp only [pq20]; rfl)
    refine pure_ (i := 14) (N := some 31) (v := ?_) (a' := ?_) #[Y20,Y20,Y20,Y20,Y20,Y20,Y20,Y20,Y20,Y20,Y20,Y20,Y20,Y20,Y20,N20,N20,N20,N20,N20,N20,N20,N20,N20,N20] rfl rfl (any_of HT_.out (by kernel_rfl)) (fun _ _ _ h => h) (Or.inl ⟨by rfl, ?_⟩) ?_ ?_; rotate_left; (intro w'; go_simp; with_reducible rfl); rotate_left; (simp only [pq20]; rfl)
    refine pure_ (i := 15) (N := some 32) (v := ?_) (a' := ?_) #[Y20,Y20,Y20,Y20,Y20,Y20,Y20,Y20,Y20,Y20,Y20,Y20,Y20,Y20,Y20,Y20,N20,N20,N20,N20,N20,N20,N20,N20,N20] rfl rfl (any_of HT_.out (by kernel_rfl)) (fun _ _ _ h => h) (Or.inl ⟨by rfl, ?_⟩) ?_ ?_; rotate_left; (intro w'; go_simp; with_reducible rfl); rotate_left; (simp only [pq20]; rfl)
    refine pure_ (i := 16) (N := some 33) (v := ?_) (a' := ?_) #[Y20,Y20,Y20,Y20,Y20,Y20,Y20,Y20,Y20,Y20,Y20,Y20,Y20,Y20,Y20,Y20,Y20,N20,N20,N20,N20,N20,N20,N20,N20] rfl rfl (any_of HT_.out (by kernel_rfl)) (fun _ _ _ h => h) (Or.inl ⟨by rfl, ?_⟩) ?_ ?_; rotate_left; (intro w'; go_simp; with_reducible rfl); rotate_left; (simp only [pq20]; rfl)
    refine pure_ (i := 18) (N := some 35) (v := ?_) (a' := ?_) #[Y20,Y20,Y20,Y20,Y20,Y20,Y20,Y20,Y20,Y20,Y20,Y20,Y20,Y20,Y20,Y20,Y20,N20,Y20,N20,N20,N20,N20,N20,N20] rfl rfl (any_of HT_.out (by kernel_rfl)) (fun _ _ _ h => h) (Or.inl ⟨by rfl, ?_⟩) ?_ ?_; rotate_left; (intro w'; go_simp; with_reducible rfl); rotate_left; (simp only [pq20]; rfl)
    refine pure_ (i := 19) (N := some 36) (v := ?_) (a' := ?_) #[Y20,Y20,Y20,Y20,Y20,Y20,Y20,Y20,Y20,Y20,Y20,Y20,Y20,Y20,Y20,Y20,Y20,N20,Y20,Y20,N20,N20,N20,N20,N20] rfl rfl (any_of HT_.out (by kernel_rfl)) (fun _ _ _ h => h) (Or.inl ⟨by rfl, ?_⟩) ?_ ?_; rotate_left; (intro w'; go_simp; with_reducible rfl); rotate_left; (simp only [pq20]; rfl)
    refine pure_ (i := 20) (N := some 37) (v := ?_) (a' := ?_) #[Y20,Y20,Y20,Y20,Y20,Y20,Y20,Y20,Y20,Y20,Y20,Y20,Y20,Y20,Y20,Y20,Y20,N20,Y20,Y20,Y20,N20,N20,N20,N20] rfl rfl (any_of HT_.out (by kernel_rfl)) (fun _ _ _ h => h) (Or.inl ⟨by rfl, ?_⟩) ?_ ?_; rotate_left; (intro w'; go_simp; with_reducible rfl); rotate_left; (simp only [pq20]; rfl)
    refine pure_ (i := 21) (N := some 38) (v := ?_) (a' := ?_) #[Y20,Y20,Y20,Y20,Y20,Y20,Y20,Y20,Y20,Y20,Y20,Y20,Y20,Y20,Y20,Y20,Y20,N20,Y20,Y20,Y20,Y20,N20,N20,N20] rfl rfl (any_of HT_.out (by kernel_rfl)) (fun _ _ _ h => h) (Or.inl ⟨by rfl, ?_⟩) ?_ ?_; rotate_left; (intro w'; go_simp; with_reducible rfl); rotate_left; (simp only [pq20]; rfl)
    refine take_ (i := 17) (N := some 34) (v := ?_) (a' := ?_) #[Y20,Y20,Y20,Y20,Y20,Y20,Y20,Y20,Y20,Y20,Y20,Y20,Y20,Y20,Y20,Y20,Y20,Y20,Y20,Y20,Y20,Y20,N20,N20,N20] rfl rfl (take_ofW HT_.out HW_.out (by kernel_rfl)) (fun _ _ _ h => h) (Or.inl ⟨by rfl, ?_⟩) hHeld ?_ ?_
    rotate_left
    · rintro w' ⟨s0, s1, s2, s3, s4, s5, s6, s7, s8, s9, s10, s11⟩
      go_simp
      with_reducible rfl
    rotate_left
    · simp only [pq20]
      rfl
    refine take_ (i := 22) (N := some 39) (v := ?_) (a' := ?_) #[Y20,Y20,Y20,Y20,Y20,Y20,Y20,Y20,Y20,Y20,Y20,Y20,Y20,Y20,Y20,Y20,Y20,Y20,Y20,Y20,Y20,Y20,Y20,N20,N20] rfl rfl (take_ofW HT_.out HW_.out (by kernel_rfl)) (fun _ _ _ h => h) (Or.inl ⟨by rfl, ?_⟩) hHeld ?_ ?_
    rotate_left
    · rintro w' ⟨s0, s1, s2, s3, s4, s5, s6, s7, s8, s9, s10, s11⟩
      go_simp
      with_reducible rfl
    rotate_left
    · simp only [pq20]
      rfl
    refine pure_ (i := 23) (N := some 40) (v := ?_) (a' := ?_) #[Y20,Y20,Y20,Y20,Y20,Y20,Y20,Y20,Y20,Y20,Y20,Y20,Y20,Y20,Y20,Y20,Y20,Y20,Y20,Y20,Y20,Y20,Y20,Y20,N20] rfl rfl (any_of HT_.out (by kernel_rfl)) (fun _ _ _ h => h) (Or.inl ⟨by rfl, ?_⟩) ?_ ?_; rotate_left; (intro w'; go_simp; with_reducible rfl); rotate_left; (simp only [pq20]; rfl)
    refine pure_ (i := 24) (N := some 41) (v := ?_) (a' := ?_) #[Y20,Y20,Y20,Y20,Y20,Y20,Y20,Y20,Y20,Y20,Y20,Y20,Y20,Y20,Y20,Y20,Y20,Y20,Y20,Y20,Y20,Y20,Y20,Y20,Y20] rfl rfl (any_of HT_.out (by kernel_rfl)) (fun _ _ _ h => h) (Or.inl ⟨by rfl, ?_⟩) ?_ ?_; rotate_left; (intro w'; go_simp; with_reducible rfl); rotate_left; (simp only [pq20]; rfl)
    refine done_ (done_of HT_.out (by kernel_rfl)) ?_
    try go_wp2
    go_roundg k1
    case measure => have := HK1.out; omega
    case rel => exact ⟨(wrap64 (x5_1 + 1)), (by first | rfl | (simp; done) | (simp [*]; done)), H', ⟨by have := HK1.out; omega⟩, ⟨by repeat (first | (with_reducible first | exact HB.out | apply below_alloc | apply pw_below_drewN | apply below_drew1) | exact HB.out)⟩⟩
end Go.Proofs.YtlgndfplikhflaaDoor.G
