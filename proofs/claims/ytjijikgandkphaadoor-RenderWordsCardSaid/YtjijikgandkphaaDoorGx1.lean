import Derived.Test.YtjijikgandkphaaDoorGx0
namespace Go.Proofs.YtjijikgandkphaaDoor.G
open Go.RowKit Go.Proofs.YtjijikgandkphaaDoorW.PrintWords Go.Proofs.YtjijikgandkphaaDoorW.PrintLast Go.Proofs.YtjijikgandkphaaDoorW.PrintMore Go.Proofs.YtjijikgandkphaaDoorW.VWords Go.Proofs.YtjijikgandkphaaDoorW.Tab
attribute [local go_sem] max2_int min2_int max_two min_two max_three min_three max_four min_four
set_option linter.unusedVariables false
set_option linter.unusedSimpArgs false
def act_fields.f (a0 : Int) : Option (Int) := if a0 < 4 then (some (-1)) else (if a0 > 10 then (some (-1)) else ((some (([3, 3, 6, 2, 2, 1, 6] : List Int) : List Int)).bind fun y101 => (if 0 ≤ (wrap64 (a0 - 4)) then (if (wrap64 (a0 - 4)) < (y101.length : Int) then (some (rd y101 (wrap64 (a0 - 4)))) else (none)) else (none))))
set_option maxHeartbeats 8000000 in
set_option maxRecDepth 100000 in
theorem act_fields.calls (a0 : Int) (r : Int) (w : World) (h : act_fields.f a0 = some r) :
  Calls Tryd.prog 20 #[.int .i64 a0] w fun e w' => e = .returned (.int .i64 r) ∧ Below w.heap.size w w' := by
 have HB := Aside0.mk (Below.refl w.heap.size w)
 have H : (if a0 < 4 then (some (-1)) else (if a0 > 10 then (some (-1)) else ((some (([3, 3, 6, 2, 2, 1, 6] : List Int) : List Int)).bind fun y101 => (if 0 ≤ (wrap64 (a0 - 4)) then (if (wrap64 (a0 - 4)) < (y101.length : Int) then (some (rd y101 (wrap64 (a0 - 4)))) else (none)) else (none))))) = some r := h
 clear h
 by_cases c2 : a0 < 4
 ·rw [if_pos c2] at H
  have c2b0 : decide (a0 < 4) = true := decide_eq_true c2
  clear c2
  obtain rfl := Option.some.inj H
  go_enter Tryd.func20, Tryd.ntmps20
  go_wp2
  go_ret
  exact ⟨by first | rfl | (simp [errW_none, errW_some] <;> rfl) | (simp [*, errW_none, errW_some] <;> rfl), by exact wU HB.out⟩
 ·rw [if_neg c2] at H
  have c2b0 : decide (a0 < 4) = false := decide_eq_false c2
  clear c2
  by_cases c3 : a0 > 10
  ·rw [if_pos c3] at H
   have c3b0 : decide (10 < a0) = true := decide_eq_true c3
   clear c3
   obtain rfl := Option.some.inj H
   go_enter Tryd.func20, Tryd.ntmps20
   go_wp2
   go_ret
   exact ⟨by first | rfl | (simp [errW_none, errW_some] <;> rfl) | (simp [*, errW_none, errW_some] <;> rfl), by exact wU HB.out⟩
  ·rw [if_neg c3] at H
   have c3b0 : decide (10 < a0) = false := decide_eq_false c3
   clear c3
   obtain ⟨y101, hy101⟩ : ∃ y_ : List Int, y_ = (([3, 3, 6, 2, 2, 1, 6] : List Int)) := ⟨_, rfl⟩
   replace H : (if 0 ≤ (wrap64 (a0 - 4)) then (if (wrap64 (a0 - 4)) < (y101.length : Int) then (some (rd y101 (wrap64 (a0 - 4)))) else (none)) else (none)) = some r := by first | (rw [hy101]; with_reducible exact H) | (have H2_ := (Option.bind_some _ _).symm.trans H; rw [hy101]; with_reducible exact H2_) | (have H2_ := (Option.bind_some _ _).symm.trans H; with_reducible exact H2_) | with_reducible exact H | (rw [hy101]; exact H) | exact H
   have Ny101 := Aside0.mk hy101
   clear hy101
   obtain ⟨ji4, hji4⟩ : ∃ j_ : Int, (wrap64 (a0 - 4)) = j_ := ⟨_, rfl⟩
   replace H : (if 0 ≤ (ji4) then (if (ji4) < (y101.length : Int) then (some (rd y101 (ji4))) else (none)) else (none)) = some r := by first | (rw [hji4] at H; exact H) | (simp only [hji4] at H ⊢; exact H)
   have hji4w : (IntKind.i64.wrap (a0 - 4)) = ji4 := (i64_w _).trans hji4
   by_cases c5 : 0 ≤ (ji4)
   ·rw [if_pos c5] at H
    have c5b0 : decide (0 ≤ (ji4)) = true := decide_eq_true c5
    clear c5
    by_cases c6 : (ji4) < (y101.length : Int)
    ·rw [if_pos c6] at H
     have c6b0 : decide ((ji4) < (y101.length : Int)) = true := decide_eq_true c6
     clear c6
     obtain rfl := Option.some.inj H
     go_enter Tryd.func20, Tryd.ntmps20
     go_wp2_with (first | ((with_reducible refine gate_dst (N := 9) rfl ?_); refine Kd.R_lit (Kd.int .i64) _ 3 ?hg (N := 9) ?hd (xs := ([3, 3, 6, 2, 2, 1, 6] : List Int)) (inner := [.int .i64 3, .int .i64 3, .int .i64 6, .int .i64 2, .int .i64 2, .int .i64 1, .int .i64 6]) (ok := fun _ => True) (okp := fun _ => True) ?hr ?hp (fun _ hk => hk) trivial (Below.refl _ _) (Nat.le_refl _) (by simp) ?_; (case hd => rfl); (case hg => rfl); (case hr => first | (go_simp; done) | (go_simp; rfl)); (case hp => exact (Reps.one (show Kd.M (Kd.int .i64) _ _ _ 3 [.int .i64 3] from rfl) (Reps.one (show Kd.M (Kd.int .i64) _ _ _ 3 [.int .i64 3] from rfl) (Reps.one (show Kd.M (Kd.int .i64) _ _ _ 6 [.int .i64 6] from rfl) (Reps.one (show Kd.M (Kd.int .i64) _ _ _ 2 [.int .i64 2] from rfl) (Reps.one (show Kd.M (Kd.int .i64) _ _ _ 2 [.int .i64 2] from rfl) (Reps.one (show Kd.M (Kd.int .i64) _ _ _ 1 [.int .i64 1] from rfl) (Reps.one (show Kd.M (Kd.int .i64) _ _ _ 6 [.int .i64 6] from rfl) (Reps.none _ _))))))))); intro v102 w7 ho8 hb hg_ hnew_; clear hg_ hnew_; (first | rw [← Ny101.out] at ho8 | (simp only [Int.reduceToNat] at ho8; rw [← Ny101.out] at ho8)); have n0_ := Aside0.mk (Kd.R_lower ho8 (below_size (by exact wU HB.out))); have n1_ := Aside0.mk (below_step (by exact wU HB.out) hb); clear HB; have HO103 := n0_; have HB := n1_; clear n0_ n1_; clear hb ho8; obtain ⟨Ao9, co9, eo9⟩ := Kd.R_slice HO103.out; subst eo9; have p104 : 0 ≤ ((ji4) : Int) := of_decide_eq_true (by first | (with_reducible assumption) | assumption); have q104 : (ji4) < (y101.length : Int) := of_decide_eq_true (by first | (with_reducible assumption) | assumption); obtain ⟨ad104, e104, hx104_0⟩ := Kd.at_int (Kd.R_reads' HO103.out).2.2 (ji4) p104 q104; cases e104; replace p104 := eq_true p104; replace q104 := eq_true q104))
     go_ret
     exact ⟨by first | rfl | (simp [errW_none, errW_some] <;> rfl) | (simp only [← hji4]; first | rfl | (simp [errW_none, errW_some] <;> rfl)) | (simp [*, errW_none, errW_some] <;> rfl), by exact wU HB.out⟩
    ·rw [if_neg c6] at H
     exact absurd H (by simp)
   ·rw [if_neg c5] at H
    exact absurd H (by simp)
def civil_leap.f (a0 : Int) : Option (Bool) := if (Int.tmod a0 4) = 0 then (if (Int.tmod a0 100) = 0 then (some ((Int.tmod a0 400) == 0)) else (some true)) else (some ((Int.tmod a0 400) == 0))
set_option maxHeartbeats 8000000 in
set_option maxRecDepth 100000 in
theorem civil_leap.calls (a0 : Int) (r : Bool) (w : World) (h : civil_leap.f a0 = some r) :
  Calls Tryd.prog 70 #[.int .i64 a0] w fun e w' => e = .returned (.bool r) ∧ Drawn0 w w' := by
 have H : (if (Int.tmod a0 4) = 0 then (if (Int.tmod a0 100) = 0 then (some ((Int.tmod a0 400) == 0)) else (some true)) else (some ((Int.tmod a0 400) == 0))) = some r := h
 clear h
 by_cases c2 : (Int.tmod a0 4) = 0
 ·rw [if_pos c2] at H
  have c2b0 : ((Int.tmod a0 4) == 0) = true := beq_iff_eq.mpr c2
  have c2b1 : ((Int.tmod a0 4) != 0) = false := bne_eq_false_iff_eq.mpr c2
  clear c2
  by_cases c3 : (Int.tmod a0 100) = 0
  ·rw [if_pos c3] at H
   have c3b0 : ((Int.tmod a0 100) == 0) = true := beq_iff_eq.mpr c3
   have c3b1 : ((Int.tmod a0 100) != 0) = false := bne_eq_false_iff_eq.mpr c3
   clear c3
   obtain rfl := Option.some.inj H
   go_enter Tryd.func70, Tryd.ntmps70
   go_wp2
   go_ret
   exact ⟨by first | rfl | (simp; done) | (simp [*]; done), by repeat (first | exact Drawn0.refl _ | apply Drawn0.step)⟩
  ·rw [if_neg c3] at H
   have c3b0 : ((Int.tmod a0 100) == 0) = false := beq_eq_false_iff_ne.mpr c3
   have c3b1 : ((Int.tmod a0 100) != 0) = true := bne_iff_ne.mpr c3
   obtain rfl := Option.some.inj H
   go_enter Tryd.func70, Tryd.ntmps70
   go_wp2
   go_ret
   exact ⟨by first | rfl | (simp; done) | (simp [*]; done), by repeat (first | exact Drawn0.refl _ | apply Drawn0.step)⟩
 ·rw [if_neg c2] at H
  have c2b0 : ((Int.tmod a0 4) == 0) = false := beq_eq_false_iff_ne.mpr c2
  have c2b1 : ((Int.tmod a0 4) != 0) = true := bne_iff_ne.mpr c2
  obtain rfl := Option.some.inj H
  go_enter Tryd.func70, Tryd.ntmps70
  go_wp2
  go_ret
  exact ⟨by first | rfl | (simp; done) | (simp [*]; done), by repeat (first | exact Drawn0.refl _ | apply Drawn0.step)⟩
def civil_Length.f (a0 : Int) (a1 : Int) : Option (Int) := if a1 = 2 then ((civil_leap.f a0).bind fun t105 => (if t105 = true then (some 29) else (some 28))) else (if a1 = 4 then (some 30) else (if a1 = 6 then (some 30) else (if a1 = 9 then (some 30) else (if a1 = 11 then (some 30) else (some 31)))))
set_option maxHeartbeats 8000000 in
set_option maxRecDepth 100000 in
theorem civil_Length.calls (a0 : Int) (a1 : Int) (r : Int) (w : World) (h : civil_Length.f a0 a1 = some r) :
  Calls Tryd.prog 51 #[.int .i64 a0, .int .i64 a1] w fun e w' => e = .returned (.int .i64 r) ∧ Drawn0 w w' := by
 have H : (if a1 = 2 then ((civil_leap.f a0).bind fun t105 => (if t105 = true then (some 29) else (some 28))) else (if a1 = 4 then (some 30) else (if a1 = 6 then (some 30) else (if a1 = 9 then (some 30) else (if a1 = 11 then (some 30) else (some 31)))))) = some r := h
 clear h
 by_cases c3 : a1 = 2
 ·rw [if_pos c3] at H
  have c3b0 : (a1 == 2) = true := beq_iff_eq.mpr c3
  have c3b1 : (a1 != 2) = false := bne_eq_false_iff_eq.mpr c3
  clear c3
  replace H := Option.bind_eq_some_iff.mp H
  obtain ⟨t105, A40, H⟩ := H
  replace H : (if t105 = true then (some 29) else (some 28)) = some r := H
  have A4 := Aside0.mk A40
  clear A40
  by_cases c5 : t105 = true
  ·subst c5
   have H1 : (some 29) = some r := by rw [if_pos rfl] at H; exact H
   clear H
   have H := H1
   clear H1
   obtain rfl := Option.some.inj H
   go_enter Tryd.func51, Tryd.ntmps51
   go_wp2_with (first | ((with_reducible refine gate_callee (f := 70) rfl ?_); refine goesL_ (some 9) rfl rfl Tryd.func70 (by kernel_rfl) rfl #[.int .i64 a0] rfl (by (try simp only [List.map_toArray, List.map_cons, List.map_nil]); first | done | rfl | (simp only [List.length_drop, List.length_take]; rfl)) ?_; (with_reducible refine (civil_leap.calls a0 true _ A4.out).mono ?_); rintro e w' ⟨rfl, ⟨nd, rfl⟩⟩; refine ⟨_, rfl, ?_⟩))
   go_ret
   exact ⟨by first | rfl | (simp; done) | (simp [*]; done), by repeat (first | exact Drawn0.refl _ | apply Drawn0.step)⟩
  ·replace c5 := Bool.eq_false_iff.mpr c5
   subst c5
   have H1 : (some 28) = some r := by rw [if_neg (show ¬ (false = true) by decide)] at H; exact H
   clear H
   have H := H1
   clear H1
   obtain rfl := Option.some.inj H
   go_enter Tryd.func51, Tryd.ntmps51
   go_wp2_with (first | ((with_reducible refine gate_callee (f := 70) rfl ?_); refine goesL_ (some 9) rfl rfl Tryd.func70 (by kernel_rfl) rfl #[.int .i64 a0] rfl (by (try simp only [List.map_toArray, List.map_cons, List.map_nil]); first | done | rfl | (simp only [List.length_drop, List.length_take]; rfl)) ?_; (with_reducible refine (civil_leap.calls a0 false _ A4.out).mono ?_); rintro e w' ⟨rfl, ⟨nd, rfl⟩⟩; refine ⟨_, rfl, ?_⟩))
   go_ret
   exact ⟨by first | rfl | (simp; done) | (simp [*]; done), by repeat (first | exact Drawn0.refl _ | apply Drawn0.step)⟩
 ·rw [if_neg c3] at H
  have c3b0 : (a1 == 2) = false := beq_eq_false_iff_ne.mpr c3
  have c3b1 : (a1 != 2) = true := bne_iff_ne.mpr c3
  by_cases c6 : a1 = 4
  ·rw [if_pos c6] at H
   have c6b0 : (a1 == 4) = true := beq_iff_eq.mpr c6
   have c6b1 : (a1 != 4) = false := bne_eq_false_iff_eq.mpr c6
   clear c6
   obtain rfl := Option.some.inj H
   go_enter Tryd.func51, Tryd.ntmps51
   go_wp2
   go_ret
   exact ⟨by first | rfl | (simp; done) | (simp [*]; done), by repeat (first | exact Drawn0.refl _ | apply Drawn0.step)⟩
  ·rw [if_neg c6] at H
   have c6b0 : (a1 == 4) = false := beq_eq_false_iff_ne.mpr c6
   have c6b1 : (a1 != 4) = true := bne_iff_ne.mpr c6
   by_cases c7 : a1 = 6
   ·rw [if_pos c7] at H
    have c7b0 : (a1 == 6) = true := beq_iff_eq.mpr c7
    have c7b1 : (a1 != 6) = false := bne_eq_false_iff_eq.mpr c7
    clear c7
    obtain rfl := Option.some.inj H
    go_enter Tryd.func51, Tryd.ntmps51
    go_wp2
    go_ret
    exact ⟨by first | rfl | (simp; done) | (simp [*]; done), by repeat (first | exact Drawn0.refl _ | apply Drawn0.step)⟩
   ·rw [if_neg c7] at H
    have c7b0 : (a1 == 6) = false := beq_eq_false_iff_ne.mpr c7
    have c7b1 : (a1 != 6) = true := bne_iff_ne.mpr c7
    by_cases c8 : a1 = 9
    ·rw [if_pos c8] at H
     have c8b0 : (a1 == 9) = true := beq_iff_eq.mpr c8
     have c8b1 : (a1 != 9) = false := bne_eq_false_iff_eq.mpr c8
     clear c8
     obtain rfl := Option.some.inj H
     go_enter Tryd.func51, Tryd.ntmps51
     go_wp2
     go_ret
     exact ⟨by first | rfl | (simp; done) | (simp [*]; done), by repeat (first | exact Drawn0.refl _ | apply Drawn0.step)⟩
    ·rw [if_neg c8] at H
     have c8b0 : (a1 == 9) = false := beq_eq_false_iff_ne.mpr c8
     have c8b1 : (a1 != 9) = true := bne_iff_ne.mpr c8
     by_cases c9 : a1 = 11
     ·rw [if_pos c9] at H
      have c9b0 : (a1 == 11) = true := beq_iff_eq.mpr c9
      have c9b1 : (a1 != 11) = false := bne_eq_false_iff_eq.mpr c9
      clear c9
      obtain rfl := Option.some.inj H
      go_enter Tryd.func51, Tryd.ntmps51
      go_wp2
      go_ret
      exact ⟨by first | rfl | (simp; done) | (simp [*]; done), by repeat (first | exact Drawn0.refl _ | apply Drawn0.step)⟩
     ·rw [if_neg c9] at H
      have c9b0 : (a1 == 11) = false := beq_eq_false_iff_ne.mpr c9
      have c9b1 : (a1 != 11) = true := bne_iff_ne.mpr c9
      obtain rfl := Option.some.inj H
      go_enter Tryd.func51, Tryd.ntmps51
      go_wp2
      go_ret
      exact ⟨by first | rfl | (simp; done) | (simp [*]; done), by repeat (first | exact Drawn0.refl _ | apply Drawn0.step)⟩
theorem eqDay3 (d : Nat) (w : World) (x0 x1 x2 y0 y1 y2 : Int) :
  (Op.equalIn (d + 2) 101 (.agg #[.int .i64 x0, .int .i64 x1, .int .i64 x2]) (.agg #[.int .i64 y0, .int .i64 y1, .int .i64 y2])).run Tryd.prog w = .ok (x0 == y0 && (x1 == y1 && x2 == y2)) w := by
 have hu := Tryd.underlying101
 have h3 := Tryd.underlying3
 have e : ∀ a b : Int, (Op.equalIn (d + 1) 3 (.int .i64 a) (.int .i64 b)).run Tryd.prog w = .ok (a == b) w := fun a b => by
  rw [Op.equalIn]; go_simp
 rw [Op.equalIn]
 simp only [Sem.run_bind, run_underlying hu, Result.andThen_ok]
 rw [show (Sem.run Tryd.prog (sizeOf 3) w) = .ok 1 w by go_simp]
 have pt : ∀ (xs : Array Value) (i : Nat) (a : Int), xs[i]? = some (.int .i64 a) → (part 3 xs i).run Tryd.prog w = .ok (.int .i64 a) w := fun xs i a h => by go_simp
 simp only [Result.andThen_ok, Nat.mul_one]
 simp only [Std.Legacy.Range.forIn_eq_forIn_range', Std.Legacy.Range.size, Nat.sub_zero, Nat.add_sub_cancel, Nat.div_one, List.range', List.forIn_cons, Sem.run_bind]
 have p0 := pt #[.int .i64 x0, .int .i64 x1, .int .i64 x2] 0 x0 rfl
 have p1 := pt #[.int .i64 x0, .int .i64 x1, .int .i64 x2] (0 + 1) x1 rfl
 have p2 := pt #[.int .i64 x0, .int .i64 x1, .int .i64 x2] (0 + 1 + 1) x2 rfl
 have r0 := pt #[.int .i64 y0, .int .i64 y1, .int .i64 y2] 0 y0 rfl
 have r1 := pt #[.int .i64 y0, .int .i64 y1, .int .i64 y2] (0 + 1) y1 rfl
 have r2 := pt #[.int .i64 y0, .int .i64 y1, .int .i64 y2] (0 + 1 + 1) y2 rfl
 simp only [p0, r0, e, Result.andThen_ok]
 cases x0 == y0
 ·simp
 ·simp only [Sem.run_bind, Sem.run_pure, Result.andThen_ok, p1, r1, e, Bool.not_true, Bool.false_eq_true, if_false]
  cases x1 == y1
  ·simp
  ·simp only [Sem.run_bind, Sem.run_pure, Result.andThen_ok, p2, r2, e, Bool.not_true, Bool.false_eq_true, if_false]
   cases x2 == y2
   ·simp
   ·simp
attribute [local go_sem high] eqDay3
def civil_Right.f (y m d h i s : Int) : Option Bool :=
 (civil_Length.f y m).bind fun n => some (!decide (y < 1) && (!decide (9999 < y) && (!decide (m < 1) && (!decide (12 < m) && (!decide (d < 1) && (!decide (n < d) && decide (mx 0 (mn h 23) = h ∧ mx 0 (mn i 59) = i ∧ mx 0 (mn s 59) = s)))))))
set_option maxHeartbeats 8000000 in
set_option maxRecDepth 100000 in
theorem civil_Right.calls (y m d h i s : Int) (r : Bool) (w : World) (hr : civil_Right.f y m d h i s = some r) : Calls Tryd.prog 36 #[.agg #[.int .i64 y, .int .i64 m, .int .i64 d, .int .i64 h, .int .i64 i, .int .i64 s]] w fun e w' => e = .returned (.bool r) ∧ Below w.heap.size w w' := by
 have hu77 := Tryd.underlying77
 obtain ⟨n, hn, e⟩ := Option.bind_eq_some_iff.mp hr
 have HN := Aside0.mk hn
 have HR := Aside0.mk (Option.some.inj e)
 clear hr hn e
 cases c0 : decide (y < 1) with
 | true =>
  have e : r = false := by rw [← HR.out]; simp only [c0, Bool.not_true, Bool.not_false, Bool.false_and, Bool.true_and]
  subst e
  go_enter Tryd.func36, Tryd.ntmps36
  go_wp2_with (first | ((with_reducible refine gate_dst (N := 1) rfl ?_); refine box_event ?hg (N := 1) ?hd (cs := #[.int .i64 y, .int .i64 m, .int .i64 d, .int .i64 h, .int .i64 i, .int .i64 s]) (t := 77) ?hr ?_; (case hd => rfl); (case hg => rfl); (case hr => first | (go_simp; done) | (go_simp; rfl)); intro g1 hg1 wg hbox hb; have HK := Aside0.mk hbox; have HD := Aside0.mk hb; clear hbox hb hg1; have z0 : wg.cell? ⟨g1, 0, none⟩ = some (.int .i64 y) := (blk_cell HK.out 0).trans rfl; have z1 : wg.cell? ⟨g1, 1, none⟩ = some (.int .i64 m) := (blk_cell HK.out 1).trans rfl; have z2 : wg.cell? ⟨g1, 2, none⟩ = some (.int .i64 d) := (blk_cell HK.out 2).trans rfl))
  go_quiet ((go_at_call 51; refine Calls.quiet_of ((civil_Length.calls y m n _ HN.out).mono (fun _ _ h => ⟨h.1, h.2.out⟩))))
  go_wp2
  go_ret
  exact ⟨rfl, pw_below_drewN HD.out _⟩
 | false =>
  cases c1 : decide (9999 < y) with
  | true =>
   have e : r = false := by rw [← HR.out]; simp only [c0, c1, Bool.not_true, Bool.not_false, Bool.false_and, Bool.true_and]
   subst e
   go_enter Tryd.func36, Tryd.ntmps36
   go_wp2_with (first | ((with_reducible refine gate_dst (N := 1) rfl ?_); refine box_event ?hg (N := 1) ?hd (cs := #[.int .i64 y, .int .i64 m, .int .i64 d, .int .i64 h, .int .i64 i, .int .i64 s]) (t := 77) ?hr ?_; (case hd => rfl); (case hg => rfl); (case hr => first | (go_simp; done) | (go_simp; rfl)); intro g1 hg1 wg hbox hb; have HK := Aside0.mk hbox; have HD := Aside0.mk hb; clear hbox hb hg1; have z0 : wg.cell? ⟨g1, 0, none⟩ = some (.int .i64 y) := (blk_cell HK.out 0).trans rfl; have z1 : wg.cell? ⟨g1, 1, none⟩ = some (.int .i64 m) := (blk_cell HK.out 1).trans rfl; have z2 : wg.cell? ⟨g1, 2, none⟩ = some (.int .i64 d) := (blk_cell HK.out 2).trans rfl))
   go_quiet ((go_at_call 51; refine Calls.quiet_of ((civil_Length.calls y m n _ HN.out).mono (fun _ _ h => ⟨h.1, h.2.out⟩))))
   go_wp2
   go_ret
   exact ⟨rfl, pw_below_drewN HD.out _⟩
  | false =>
   cases c2 : decide (m < 1) with
   | true =>
    have e : r = false := by rw [← HR.out]; simp only [c0, c1, c2, Bool.not_true, Bool.not_false, Bool.false_and, Bool.true_and]
    subst e
    go_enter Tryd.func36, Tryd.ntmps36
    go_wp2_with (first | ((with_reducible refine gate_dst (N := 1) rfl ?_); refine box_event ?hg (N := 1) ?hd (cs := #[.int .i64 y, .int .i64 m, .int .i64 d, .int .i64 h, .int .i64 i, .int .i64 s]) (t := 77) ?hr ?_; (case hd => rfl); (case hg => rfl); (case hr => first | (go_simp; done) | (go_simp; rfl)); intro g1 hg1 wg hbox hb; have HK := Aside0.mk hbox; have HD := Aside0.mk hb; clear hbox hb hg1; have z0 : wg.cell? ⟨g1, 0, none⟩ = some (.int .i64 y) := (blk_cell HK.out 0).trans rfl; have z1 : wg.cell? ⟨g1, 1, none⟩ = some (.int .i64 m) := (blk_cell HK.out 1).trans rfl; have z2 : wg.cell? ⟨g1, 2, none⟩ = some (.int .i64 d) := (blk_cell HK.out 2).trans rfl))
    go_quiet ((go_at_call 51; refine Calls.quiet_of ((civil_Length.calls y m n _ HN.out).mono (fun _ _ h => ⟨h.1, h.2.out⟩))))
    go_wp2
    go_ret
    exact ⟨rfl, pw_below_drewN HD.out _⟩
   | false =>
    cases c3 : decide (12 < m) with
    | true =>
     have e : r = false := by rw [← HR.out]; simp only [c0, c1, c2, c3, Bool.not_true, Bool.not_false, Bool.false_and, Bool.true_and]
     subst e
     go_enter Tryd.func36, Tryd.ntmps36
     go_wp2_with (first | ((with_reducible refine gate_dst (N := 1) rfl ?_); refine box_event ?hg (N := 1) ?hd (cs := #[.int .i64 y, .int .i64 m, .int .i64 d, .int .i64 h, .int .i64 i, .int .i64 s]) (t := 77) ?hr ?_; (case hd => rfl); (case hg => rfl); (case hr => first | (go_simp; done) | (go_simp; rfl)); intro g1 hg1 wg hbox hb; have HK := Aside0.mk hbox; have HD := Aside0.mk hb; clear hbox hb hg1; have z0 : wg.cell? ⟨g1, 0, none⟩ = some (.int .i64 y) := (blk_cell HK.out 0).trans rfl; have z1 : wg.cell? ⟨g1, 1, none⟩ = some (.int .i64 m) := (blk_cell HK.out 1).trans rfl; have z2 : wg.cell? ⟨g1, 2, none⟩ = some (.int .i64 d) := (blk_cell HK.out 2).trans rfl))
     go_quiet ((go_at_call 51; refine Calls.quiet_of ((civil_Length.calls y m n _ HN.out).mono (fun _ _ h => ⟨h.1, h.2.out⟩))))
     go_wp2
     go_ret
     exact ⟨rfl, pw_below_drewN HD.out _⟩
    | false =>
     cases c4 : decide (d < 1) with
     | true =>
      have e : r = false := by rw [← HR.out]; simp only [c0, c1, c2, c3, c4, Bool.not_true, Bool.not_false, Bool.false_and, Bool.true_and]
      subst e
      go_enter Tryd.func36, Tryd.ntmps36
      go_wp2_with (first | ((with_reducible refine gate_dst (N := 1) rfl ?_); refine box_event ?hg (N := 1) ?hd (cs := #[.int .i64 y, .int .i64 m, .int .i64 d, .int .i64 h, .int .i64 i, .int .i64 s]) (t := 77) ?hr ?_; (case hd => rfl); (case hg => rfl); (case hr => first | (go_simp; done) | (go_simp; rfl)); intro g1 hg1 wg hbox hb; have HK := Aside0.mk hbox; have HD := Aside0.mk hb; clear hbox hb hg1; have z0 : wg.cell? ⟨g1, 0, none⟩ = some (.int .i64 y) := (blk_cell HK.out 0).trans rfl; have z1 : wg.cell? ⟨g1, 1, none⟩ = some (.int .i64 m) := (blk_cell HK.out 1).trans rfl; have z2 : wg.cell? ⟨g1, 2, none⟩ = some (.int .i64 d) := (blk_cell HK.out 2).trans rfl))
      go_quiet ((go_at_call 51; refine Calls.quiet_of ((civil_Length.calls y m n _ HN.out).mono (fun _ _ h => ⟨h.1, h.2.out⟩))))
      go_wp2
      go_ret
      exact ⟨rfl, pw_below_drewN HD.out _⟩
     | false =>
      cases c5 : decide (n < d) with
      | true =>
       have e : r = false := by rw [← HR.out]; simp only [c0, c1, c2, c3, c4, c5, Bool.not_true, Bool.not_false, Bool.false_and, Bool.true_and]
       subst e
       go_enter Tryd.func36, Tryd.ntmps36
       go_wp2_with (first | ((with_reducible refine gate_dst (N := 1) rfl ?_); refine box_event ?hg (N := 1) ?hd (cs := #[.int .i64 y, .int .i64 m, .int .i64 d, .int .i64 h, .int .i64 i, .int .i64 s]) (t := 77) ?hr ?_; (case hd => rfl); (case hg => rfl); (case hr => first | (go_simp; done) | (go_simp; rfl)); intro g1 hg1 wg hbox hb; have HK := Aside0.mk hbox; have HD := Aside0.mk hb; clear hbox hb hg1; have z0 : wg.cell? ⟨g1, 0, none⟩ = some (.int .i64 y) := (blk_cell HK.out 0).trans rfl; have z1 : wg.cell? ⟨g1, 1, none⟩ = some (.int .i64 m) := (blk_cell HK.out 1).trans rfl; have z2 : wg.cell? ⟨g1, 2, none⟩ = some (.int .i64 d) := (blk_cell HK.out 2).trans rfl))
       go_quiet ((go_at_call 51; refine Calls.quiet_of ((civil_Length.calls y m n _ HN.out).mono (fun _ _ h => ⟨h.1, h.2.out⟩))))
       go_wp2
       go_ret
       exact ⟨rfl, pw_below_drewN HD.out _⟩
      | false =>
       obtain ⟨i1, q1⟩ : ∃ z : Int, (if 23 < h then 23 else h) = z := ⟨_, rfl⟩
       obtain ⟨i2, q2⟩ : ∃ z : Int, (if 0 < i1 then i1 else 0) = z := ⟨_, rfl⟩
       obtain ⟨i3, q3⟩ : ∃ z : Int, (if 59 < i then 59 else i) = z := ⟨_, rfl⟩
       obtain ⟨i4, q4⟩ : ∃ z : Int, (if 0 < i3 then i3 else 0) = z := ⟨_, rfl⟩
       obtain ⟨i5, q5⟩ : ∃ z : Int, (if 59 < s then 59 else s) = z := ⟨_, rfl⟩
       obtain ⟨i6, q6⟩ : ∃ z : Int, (if 0 < i5 then i5 else 0) = z := ⟨_, rfl⟩
       have e : r = (i2 == h && (i4 == i && i6 == s)) := by
        rw [← HR.out]
        simp only [c0, c1, c2, c3, c4, c5, Bool.not_false, Bool.true_and]
        rw [show mx 0 (mn h 23) = i2 by rw [← q2, ← q1]; rfl, show mx 0 (mn i 59) = i4 by rw [← q4, ← q3]; rfl, show mx 0 (mn s 59) = i6 by rw [← q6, ← q5]; rfl]
        rw [Bool.eq_iff_iff]
        simp only [Bool.and_eq_true, beq_iff_eq, decide_eq_true_eq]
       subst e
       clear HR
       
       go_enter Tryd.func36, Tryd.ntmps36
       go_wp2_with (first | ((with_reducible refine gate_dst (N := 1) rfl ?_); refine box_event ?hg (N := 1) ?hd (cs := #[.int .i64 y, .int .i64 m, .int .i64 d, .int .i64 h, .int .i64 i, .int .i64 s]) (t := 77) ?hr ?_; (case hd => rfl); (case hg => rfl); (case hr => first | (go_simp; done) | (go_simp; rfl)); intro g1 hg1 wg hbox hb; have HK := Aside0.mk hbox; have HD := Aside0.mk hb; clear hbox hb hg1; have z0 : wg.cell? ⟨g1, 0, none⟩ = some (.int .i64 y) := (blk_cell HK.out 0).trans rfl; have z1 : wg.cell? ⟨g1, 1, none⟩ = some (.int .i64 m) := (blk_cell HK.out 1).trans rfl; have z2 : wg.cell? ⟨g1, 2, none⟩ = some (.int .i64 d) := (blk_cell HK.out 2).trans rfl))
       go_quiet ((go_at_call 51; refine Calls.quiet_of ((civil_Length.calls y m n _ HN.out).mono (fun _ _ h => ⟨h.1, h.2.out⟩))))
       generalize hW : World.drewN _ _ = W
       replace HK := Aside0.mk (show W.heap[g1]? = some (.cells #[.int .i64 y, .int .i64 m, .int .i64 d, .int .i64 h, .int .i64 i, .int .i64 s] 77 (0, 0)) by rw [← hW]; exact HK.out)
       replace HD := Aside0.mk (show Below w.heap.size w W by rw [← hW]; exact pw_below_drewN HD.out _)
       clear hW z0 z1 z2
       have z3 : W.cell? ⟨g1, 3, none⟩ = some (.int .i64 h) := (blk_cell HK.out 3).trans rfl
       have z4 : W.cell? ⟨g1, 4, none⟩ = some (.int .i64 i) := (blk_cell HK.out 4).trans rfl
       have z5 : W.cell? ⟨g1, 5, none⟩ = some (.int .i64 s) := (blk_cell HK.out 5).trans rfl
       go_wp2_with (first | ((with_reducible refine gate_dst (N := 3) rfl ?_); refine box_event ?hg (N := 3) ?hd (cs := #[.int .i64 0, .int .i64 0, .int .i64 0]) (t := 101) ?hr ?_; (case hd => rfl); (case hg => rfl); (case hr => first | (go_simp; done) | (go_simp; rfl)); intro g3 hg3 w3 hbox hb; have K3 := Aside0.mk hbox; have L3 := Aside0.mk (blk_below HK.out hb); have D3 := Aside0.mk (below_step HD.out hb); have hn13 : g1 ≠ g3 := (by have := blk_lt HK.out; omega); have hn31 := Ne.symm hn13; have N3 := Aside0.mk (show w.heap.size ≤ g3 by rw [hg3]; exact below_size HD.out); clear hbox hb hg3; have y0 : w3.cell? ⟨g3, 0, none⟩ = some (.int .i64 0) := (blk_cell K3.out 0).trans rfl; have y1 : w3.cell? ⟨g3, 1, none⟩ = some (.int .i64 0) := (blk_cell K3.out 1).trans rfl; have y2 : w3.cell? ⟨g3, 2, none⟩ = some (.int .i64 0) := (blk_cell K3.out 2).trans rfl; have f0 := blk_frozen K3.out 0; have f1 := blk_frozen K3.out 1; have f2 := blk_frozen K3.out 2; have x3 : w3.cell? ⟨g1, 3, none⟩ = some (.int .i64 h) := (blk_cell L3.out 3).trans rfl; have x4 : w3.cell? ⟨g1, 4, none⟩ = some (.int .i64 i) := (blk_cell L3.out 4).trans rfl; have x5 : w3.cell? ⟨g1, 5, none⟩ = some (.int .i64 s) := (blk_cell L3.out 5).trans rfl))
       go_ret
       exact ⟨rfl, below_set (below_set (below_set D3.out N3.out) N3.out) N3.out⟩
end Go.Proofs.YtjijikgandkphaaDoor.G
