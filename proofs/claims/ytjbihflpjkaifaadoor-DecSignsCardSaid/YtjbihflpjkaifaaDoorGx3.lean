-- printed by wip/tool/gprint.py, a program of this work, out of the translation; Lean checks it
import Derived.Test.YtjbihflpjkaifaaDoorGx0
import Derived.Test.YtjbihflpjkaifaaDoorGx1
import Derived.Test.YtjbihflpjkaifaaDoorGx2
namespace Go.Proofs.YtjbihflpjkaifaaDoor.G
open Go.RowKit Go.Proofs.YtjbihflpjkaifaaDoorW.PrintWords Go.Proofs.YtjbihflpjkaifaaDoorW.PrintLast Go.Proofs.YtjbihflpjkaifaaDoorW.PrintMore Go.Proofs.YtjbihflpjkaifaaDoorW.VWords Go.Proofs.YtjbihflpjkaifaaDoorW.Tab
attribute [local go_sem] max2_int min2_int max_two min_two max_three min_three max_four min_four   -- for this text's walks alone
set_option linter.unusedVariables false
set_option linter.unusedSimpArgs false

/-! ### dec_Cmp: function 17 -/
def dec_Cmp.f (k : Nat) (a0 : Int) (a1 : Int) (a2 : Int) (a3 : Int) : Option (Int) :=
  (dec_decimal_parts.f k a0 a1).bind fun p => (dec_decimal_parts.f k a2 a3).bind fun q =>
  (cmp_Compare_int.f p.1 q.1).bind fun c => (cmp_Compare_int.f p.2 q.2).bind fun d => cmp_Or_int.f k [c, d]
theorem dec_Cmp.mono : ∀ a0 a1 a2 a3 k, LeO (dec_Cmp.f k a0 a1 a2 a3) (dec_Cmp.f (k + 1) a0 a1 a2 a3) := by
  intro a0 a1 a2 a3 k
  unfold dec_Cmp.f
  exact LeO.bind (dec_decimal_parts.mono _ _ _) fun _ => LeO.bind (dec_decimal_parts.mono _ _ _) fun _ => LeO.bind (LeO.refl _) fun _ => LeO.bind (LeO.refl _) fun _ => cmp_Or_int.mono _ _
theorem two_ints (w : World) (n : Nat) (c d : Int) (h : w.heap.size = n := by rfl) : Kd.C (Kd.int .i64) (w.alloc (.cells #[.int .i64 c, .int .i64 d] 3)) (some ⟨n, 0, none⟩) [c, d].length [c, d] := by
  subst h
  refine Kd.C_of_reads (d := (0 : Int)) (h1 := fun _ => rfl) ⟨by simp, by simp, fun _ => ⟨_, rfl, fun j hj => ?_⟩⟩
  match j, hj with
  | 0, _ => exact World.cell?_alloc_at _ _ _ _ rfl
  | 1, _ => exact World.cell?_alloc_at _ _ _ _ rfl
set_option maxHeartbeats 4000000 in
set_option maxRecDepth 100000 in
theorem dec_Cmp_both (k : Nat) (a0 a1 a2 a3 : Int) (p q : Int × Int) (c d r : Int) (h1 : dec_decimal_parts.f k a0 a1 = some p) (h2 : dec_decimal_parts.f k a2 a3 = some q)
    (h3 : cmp_Compare_int.f p.1 q.1 = some c) (h4 : cmp_Compare_int.f p.2 q.2 = some d) (h5 : cmp_Or_int.f k [c, d] = some r) (w : World) (b : Nat)
    (hc0 : w.cell? ⟨b, 0, none⟩ = some (.func (.func 29) #[.agg #[.int .i64 a0, .int .i64 a1]] #[]))
    (hc1 : w.cell? ⟨b, 1, none⟩ = some (.func (.func 29) #[.agg #[.int .i64 a2, .int .i64 a3]] #[])) :
    Calls Tryd.prog 26 #[.slice (some ⟨b, 0, none⟩) 2 2] w fun e w' => e = .returned (.int .i64 r) ∧ Below w.heap.size w w' := by
  have HB := Aside0.mk (Below.refl w.heap.size w)
  go_enter Tryd.func26, Tryd.ntmps26
  go_wp2
  go_quiet (fail)
  obtain ⟨p1, p2⟩ := p
  obtain ⟨q1, q2⟩ := q
  have H1 := Aside0.mk h1
  have H2 := Aside0.mk h2
  have H3 := Aside0.mk h3
  have H4 := Aside0.mk h4
  have H5 := Aside0.mk h5
  clear h1 h2 h3 h4 h5
  go_wp2_with (first
    | (go_at_call 29; first
      | ((with_reducible refine (dec_decimal_parts.calls k a0 a1 p1 p2 _ H1.out).mono ?_); rintro e w5 ⟨rfl, hb⟩; have n0_ := Aside0.mk (below_step (by repeat (first | (with_reducible first | exact HB.out | apply below_alloc | apply pw_below_drewN | apply below_drew1) | exact HB.out)) hb); clear HB; have HB := n0_; clear n0_ hb; clear H1)
      | ((with_reducible refine (dec_decimal_parts.calls k a2 a3 q1 q2 _ H2.out).mono ?_); rintro e w5 ⟨rfl, hb⟩; have n0_ := Aside0.mk (below_step (by repeat (first | (with_reducible first | exact HB.out | apply below_alloc | apply pw_below_drewN | apply below_drew1) | exact HB.out)) hb); clear HB; have HB := n0_; clear n0_ hb))
    | (go_at_call 28; first
      | ((with_reducible refine (cmp_Compare_int.calls p1 q1 c _ H3.out).mono ?_); rintro e w' ⟨rfl, ⟨nd, rfl⟩⟩; clear H3)
      | ((with_reducible refine (cmp_Compare_int.calls p2 q2 d _ H4.out).mono ?_); rintro e w' ⟨rfl, ⟨nd, rfl⟩⟩))
    | (go_at_call 27; (refine (cmp_Or_int.calls k _ 2 [c, d] r _ ?hR_ (by simp) H5.out).mono ?_); (case hR_ => exact two_ints _ _ c d); rintro e w' ⟨rfl, ⟨nd, rfl⟩⟩))
  go_ret
  exact ⟨rfl, by repeat (first | (with_reducible first | exact HB.out | apply below_alloc | apply pw_below_drewN | apply below_drew1) | exact HB.out)⟩
set_option maxHeartbeats 4000000 in
set_option maxRecDepth 100000 in
theorem dec_Cmp.calls (k : Nat) (a0 : Int) (a1 : Int) (a2 : Int) (a3 : Int) (r : Int) (w : World) (h : dec_Cmp.f k a0 a1 a2 a3 = some r) :
    Calls Tryd.prog 17 #[.int .i64 a0, .int .i64 a1, .int .i64 a2, .int .i64 a3] w fun e w' => e = .returned (.int .i64 r) ∧ Below w.heap.size w w' := by
  unfold dec_Cmp.f at h
  obtain ⟨p, h1, h⟩ := Option.bind_eq_some_iff.mp h
  obtain ⟨q, h2, h⟩ := Option.bind_eq_some_iff.mp h
  obtain ⟨c, h3, h⟩ := Option.bind_eq_some_iff.mp h
  obtain ⟨d, h4, h5⟩ := Option.bind_eq_some_iff.mp h
  have H1 := Aside0.mk h1
  have H2 := Aside0.mk h2
  have H3 := Aside0.mk h3
  have H4 := Aside0.mk h4
  have H5 := Aside0.mk h5
  clear h h1 h2 h3 h4 h5
  have HB := Aside0.mk (Below.refl w.heap.size w)
  have hu44 := Tryd.underlying44
  go_enter Tryd.func17, Tryd.ntmps17
  obtain ⟨p1, p2⟩ := p
  go_wp2_with (first
    | (go_at_call 26; (refine (dec_Cmp_both k a0 a1 a2 a3 (p1, p2) q c d r H1.out H2.out H3.out H4.out H5.out _ _ ?c0_ ?c1_).mono ?_); (case c0_ => exact World.cell?_alloc_at _ _ _ _ (by go_simp)); (case c1_ => exact World.cell?_alloc_at _ _ _ _ (by go_simp)); rintro e w5 ⟨rfl, hb⟩; have n0_ := Aside0.mk (below_step (by repeat (first | (with_reducible first | exact HB.out | apply below_alloc | apply pw_below_drewN | apply below_drew1) | exact HB.out)) hb); clear HB; have HB := n0_; clear n0_ hb))
  go_ret
  exact ⟨rfl, by repeat (first | (with_reducible first | exact HB.out | apply below_alloc | apply pw_below_drewN | apply below_drew1) | exact HB.out)⟩

/-! ### dec_Scaled: function 19 -/
def dec_Scaled.f (k : Nat) (a0 : Int) (a1 : Int) (a2 : Int) : Option (Int × Bool) := (dec_Norm.f a0 a1).bind fun bt108 => (if bt108.1 = 0 then (some (0, true)) else (if a2 < bt108.2 then (some (0, false)) else (if (wrap64 (a2 - bt108.2)) > 18 then (some (0, false)) else ((dec_bound.f k).bind fun t110 => ((dec_ten.f k (wrap64 (a2 - bt108.2))).bind fun t111 => (if t111 = 0 then (none) else (if (mx bt108.1 (wrap64 (-bt108.1))) > (wrap64 (Int.tdiv (wrap64 (t110 - 1)) t111)) then (some (0, false)) else ((dec_ten.f k (wrap64 (a2 - bt108.2))).bind fun t112 => (some (wrap64 (bt108.1 * t112), true))))))))))
theorem dec_Scaled.mono : ∀ a0 a1 a2 k, LeO (dec_Scaled.f k a0 a1 a2) (dec_Scaled.f (k + 1) a0 a1 a2) := by
  intro a0 a1 a2 k
  unfold dec_Scaled.f
  repeat' first
      | (with_reducible exact dec_bound.mono _)
      | (with_reducible exact dec_ten.mono _ _)
      | (with_reducible exact LeO.refl _)
      | (with_reducible exact LeO.none _)
      | (with_reducible refine LeO.ite ?_ ?_)
      | (with_reducible refine LeO.bind ?_ (fun _ => ?_))
      | exact dec_bound.mono _
      | exact dec_ten.mono _ _
      | exact LeO.none _
      | refine LeO.ite ?_ ?_
      | refine LeO.bind ?_ (fun _ => ?_)
set_option maxHeartbeats 8000000 in
set_option maxRecDepth 100000 in
theorem dec_Scaled.calls (k : Nat) (a0 : Int) (a1 : Int) (a2 : Int) (r1 : Int) (r2 : Bool) (w : World) (h : dec_Scaled.f k a0 a1 a2 = some (r1, r2)) :
    Calls Tryd.prog 19 #[.int .i64 a0, .int .i64 a1, .int .i64 a2] w fun e w' => e = .returned (.tuple #[.int .i64 r1, .bool r2]) ∧ Below w.heap.size w w' := by
  have HB := Aside0.mk (Below.refl w.heap.size w)
  have H : ((dec_Norm.f a0 a1).bind fun bt108 => (if bt108.1 = 0 then (some (0, true)) else (if a2 < bt108.2 then (some (0, false)) else (if (wrap64 (a2 - bt108.2)) > 18 then (some (0, false)) else ((dec_bound.f k).bind fun t110 => ((dec_ten.f k (wrap64 (a2 - bt108.2))).bind fun t111 => (if t111 = 0 then (none) else (if (mx bt108.1 (wrap64 (-bt108.1))) > (wrap64 (Int.tdiv (wrap64 (t110 - 1)) t111)) then (some (0, false)) else ((dec_ten.f k (wrap64 (a2 - bt108.2))).bind fun t112 => (some (wrap64 (bt108.1 * t112), true))))))))))) = some (r1, r2) := h
  clear h
  replace H := Option.bind_eq_some_iff.mp H
  obtain ⟨⟨t108, t109⟩, A40, H⟩ := H
  replace H : (if t108 = 0 then (some (0, true)) else (if a2 < t109 then (some (0, false)) else (if (wrap64 (a2 - t109)) > 18 then (some (0, false)) else ((dec_bound.f k).bind fun t110 => ((dec_ten.f k (wrap64 (a2 - t109))).bind fun t111 => (if t111 = 0 then (none) else (if (mx t108 (wrap64 (-t108))) > (wrap64 (Int.tdiv (wrap64 (t110 - 1)) t111)) then (some (0, false)) else ((dec_ten.f k (wrap64 (a2 - t109))).bind fun t112 => (some (wrap64 (t108 * t112), true)))))))))) = some (r1, r2) := H
  have A4 := Aside0.mk A40
  clear A40
  by_cases c5 : t108 = 0
  · rw [if_pos c5] at H
    have c5b0 : (t108 == 0) = true := beq_iff_eq.mpr c5
    have c5b1 : (t108 != 0) = false := bne_eq_false_iff_eq.mpr c5
    clear c5
    simp only [Option.some.injEq, Prod.mk.injEq] at H
    obtain ⟨rfl, rfl⟩ := H
    go_enter Tryd.func19, Tryd.ntmps19
    go_wp2_with (first | ((with_reducible refine gate_callee (f := 15) rfl ?_); refine goesL_ (some 11) rfl rfl Tryd.func15 (by kernel_rfl) rfl #[.int .i64 a0, .int .i64 a1] rfl (by (try simp only [List.map_toArray, List.map_cons, List.map_nil]); first | done | rfl | (simp only [List.length_drop, List.length_take]; rfl)) ?_; (with_reducible refine (dec_Norm.calls a0 a1 t108 t109 _ A4.out).mono ?_); rintro e w' ⟨rfl, ⟨nd, rfl⟩⟩; refine ⟨_, rfl, ?_⟩))
    go_ret2
    exact ⟨by first | rfl | (simp [errW_none, errW_some] <;> rfl) | (simp [*, errW_none, errW_some] <;> rfl), by repeat (first | (with_reducible first | exact HB.out | apply below_alloc | apply pw_below_drewN | apply below_drew1) | exact HB.out)⟩
  · rw [if_neg c5] at H
    have c5b0 : (t108 == 0) = false := beq_eq_false_iff_ne.mpr c5
    have c5b1 : (t108 != 0) = true := bne_iff_ne.mpr c5
    by_cases c6 : a2 < t109
    · rw [if_pos c6] at H
      have c6b0 : decide (a2 < t109) = true := decide_eq_true c6
      clear c6
      simp only [Option.some.injEq, Prod.mk.injEq] at H
      obtain ⟨rfl, rfl⟩ := H
      go_enter Tryd.func19, Tryd.ntmps19
      go_wp2_with (first | ((with_reducible refine gate_callee (f := 15) rfl ?_); refine goesL_ (some 11) rfl rfl Tryd.func15 (by kernel_rfl) rfl #[.int .i64 a0, .int .i64 a1] rfl (by (try simp only [List.map_toArray, List.map_cons, List.map_nil]); first | done | rfl | (simp only [List.length_drop, List.length_take]; rfl)) ?_; (with_reducible refine (dec_Norm.calls a0 a1 t108 t109 _ A4.out).mono ?_); rintro e w' ⟨rfl, ⟨nd, rfl⟩⟩; refine ⟨_, rfl, ?_⟩))
      go_ret2
      exact ⟨by first | rfl | (simp [errW_none, errW_some] <;> rfl) | (simp [*, errW_none, errW_some] <;> rfl), by repeat (first | (with_reducible first | exact HB.out | apply below_alloc | apply pw_below_drewN | apply below_drew1) | exact HB.out)⟩
    · rw [if_neg c6] at H
      have c6b0 : decide (a2 < t109) = false := decide_eq_false c6
      clear c6
      by_cases c7 : (wrap64 (a2 - t109)) > 18
      · rw [if_pos c7] at H
        have c7b0 : decide (18 < (wrap64 (a2 - t109))) = true := decide_eq_true c7
        clear c7
        simp only [Option.some.injEq, Prod.mk.injEq] at H
        obtain ⟨rfl, rfl⟩ := H
        go_enter Tryd.func19, Tryd.ntmps19
        go_wp2_with (first | ((with_reducible refine gate_callee (f := 15) rfl ?_); refine goesL_ (some 11) rfl rfl Tryd.func15 (by kernel_rfl) rfl #[.int .i64 a0, .int .i64 a1] rfl (by (try simp only [List.map_toArray, List.map_cons, List.map_nil]); first | done | rfl | (simp only [List.length_drop, List.length_take]; rfl)) ?_; (with_reducible refine (dec_Norm.calls a0 a1 t108 t109 _ A4.out).mono ?_); rintro e w' ⟨rfl, ⟨nd, rfl⟩⟩; refine ⟨_, rfl, ?_⟩))
        go_ret2
        exact ⟨by first | rfl | (simp [errW_none, errW_some] <;> rfl) | (simp [*, errW_none, errW_some] <;> rfl), by repeat (first | (with_reducible first | exact HB.out | apply below_alloc | apply pw_below_drewN | apply below_drew1) | exact HB.out)⟩
      · rw [if_neg c7] at H
        have c7b0 : decide (18 < (wrap64 (a2 - t109))) = false := decide_eq_false c7
        clear c7
        obtain ⟨ji8, hji8⟩ : ∃ j_ : Int, (mx t108 (wrap64 (-t108))) = j_ := ⟨_, rfl⟩
        replace H : ((dec_bound.f k).bind fun t110 => ((dec_ten.f k (wrap64 (a2 - t109))).bind fun t111 => (if t111 = 0 then (none) else (if (ji8) > (wrap64 (Int.tdiv (wrap64 (t110 - 1)) t111)) then (some (0, false)) else ((dec_ten.f k (wrap64 (a2 - t109))).bind fun t112 => (some (wrap64 (t108 * t112), true))))))) = some (r1, r2) := by first | (rw [hji8] at H; exact H) | (simp only [hji8] at H ⊢; exact H)
        (try rw [hji8] at A4)
        have hji8_ : (if t108 < (wrap64 (-t108)) then (wrap64 (-t108)) else t108) = ji8 := hji8
        replace H := Option.bind_eq_some_iff.mp H
        obtain ⟨t110, A90, H⟩ := H
        replace H : ((dec_ten.f k (wrap64 (a2 - t109))).bind fun t111 => (if t111 = 0 then (none) else (if (ji8) > (wrap64 (Int.tdiv (wrap64 (t110 - 1)) t111)) then (some (0, false)) else ((dec_ten.f k (wrap64 (a2 - t109))).bind fun t112 => (some (wrap64 (t108 * t112), true)))))) = some (r1, r2) := H
        have A9 := Aside0.mk A90
        clear A90
        replace H := Option.bind_eq_some_iff.mp H
        obtain ⟨t111, A100, H⟩ := H
        replace H : (if t111 = 0 then (none) else (if (ji8) > (wrap64 (Int.tdiv (wrap64 (t110 - 1)) t111)) then (some (0, false)) else ((dec_ten.f k (wrap64 (a2 - t109))).bind fun t112 => (some (wrap64 (t108 * t112), true))))) = some (r1, r2) := H
        have A10 := Aside0.mk A100
        clear A100
        by_cases c11 : t111 = 0
        · rw [if_pos c11] at H
          exact absurd H (by simp)
        · rw [if_neg c11] at H
          have c11b0 : (t111 == 0) = false := beq_eq_false_iff_ne.mpr c11
          have c11b1 : (t111 != 0) = true := bne_iff_ne.mpr c11
          by_cases c12 : (ji8) > (wrap64 (Int.tdiv (wrap64 (t110 - 1)) t111))
          · rw [if_pos c12] at H
            have c12b0 : decide ((wrap64 (Int.tdiv (wrap64 (t110 - 1)) t111)) < (ji8)) = true := decide_eq_true c12
            clear c12
            simp only [Option.some.injEq, Prod.mk.injEq] at H
            obtain ⟨rfl, rfl⟩ := H
            go_enter Tryd.func19, Tryd.ntmps19
            go_wp2_with (first | ((with_reducible refine gate_callee (f := 15) rfl ?_); refine goesL_ (some 11) rfl rfl Tryd.func15 (by kernel_rfl) rfl #[.int .i64 a0, .int .i64 a1] rfl (by (try simp only [List.map_toArray, List.map_cons, List.map_nil]); first | done | rfl | (simp only [List.length_drop, List.length_take]; rfl)) ?_; (with_reducible refine (dec_Norm.calls a0 a1 t108 t109 _ A4.out).mono ?_); rintro e w' ⟨rfl, ⟨nd, rfl⟩⟩; refine ⟨_, rfl, ?_⟩) | (go_at_call 30; (with_reducible refine (dec_bound.calls k  t110 _ A9.out).mono ?_); rintro e w' ⟨rfl, ⟨nd, rfl⟩⟩) | (go_at_call 31; (with_reducible refine (dec_ten.calls k (wrap64 (a2 - t109)) t111 _ A10.out).mono ?_); rintro e w' ⟨rfl, ⟨nd, rfl⟩⟩))
            go_ret2
            exact ⟨by first | rfl | (simp [errW_none, errW_some] <;> rfl) | (simp only [← hji8]; first | rfl | (simp [errW_none, errW_some] <;> rfl)) | (simp [*, errW_none, errW_some] <;> rfl), by repeat (first | (with_reducible first | exact HB.out | apply below_alloc | apply pw_below_drewN | apply below_drew1) | exact HB.out)⟩
          · rw [if_neg c12] at H
            have c12b0 : decide ((wrap64 (Int.tdiv (wrap64 (t110 - 1)) t111)) < (ji8)) = false := decide_eq_false c12
            clear c12
            replace H := Option.bind_eq_some_iff.mp H
            obtain ⟨t112, A130, H⟩ := H
            replace H : (some (wrap64 (t108 * t112), true)) = some (r1, r2) := H
            have A13 := Aside0.mk A130
            clear A130
            simp only [Option.some.injEq, Prod.mk.injEq] at H
            obtain ⟨rfl, rfl⟩ := H
            go_enter Tryd.func19, Tryd.ntmps19
            go_wp2_with (first | ((with_reducible refine gate_callee (f := 15) rfl ?_); refine goesL_ (some 11) rfl rfl Tryd.func15 (by kernel_rfl) rfl #[.int .i64 a0, .int .i64 a1] rfl (by (try simp only [List.map_toArray, List.map_cons, List.map_nil]); first | done | rfl | (simp only [List.length_drop, List.length_take]; rfl)) ?_; (with_reducible refine (dec_Norm.calls a0 a1 t108 t109 _ A4.out).mono ?_); rintro e w' ⟨rfl, ⟨nd, rfl⟩⟩; refine ⟨_, rfl, ?_⟩) | (go_at_call 30; (with_reducible refine (dec_bound.calls k  t110 _ A9.out).mono ?_); rintro e w' ⟨rfl, ⟨nd, rfl⟩⟩) | (go_at_call 31; (with_reducible refine (dec_ten.calls k (wrap64 (a2 - t109)) t111 _ A10.out).mono ?_); rintro e w' ⟨rfl, ⟨nd, rfl⟩⟩) | ((with_reducible refine gate_callee (f := 31) rfl ?_); refine goesL_ (some 43) rfl rfl Tryd.func31 (by kernel_rfl) rfl #[.int .i64 (wrap64 (a2 - t109))] rfl (by (try simp only [List.map_toArray, List.map_cons, List.map_nil]); first | done | rfl | (simp only [List.length_drop, List.length_take]; rfl)) ?_; (with_reducible refine (dec_ten.calls k (wrap64 (a2 - t109)) t112 _ A13.out).mono ?_); rintro e w' ⟨rfl, ⟨nd, rfl⟩⟩; refine ⟨_, rfl, ?_⟩))
            go_ret2
            exact ⟨by first | rfl | (simp [errW_none, errW_some] <;> rfl) | (simp only [← hji8]; first | rfl | (simp [errW_none, errW_some] <;> rfl)) | (simp [*, errW_none, errW_some] <;> rfl), by repeat (first | (with_reducible first | exact HB.out | apply below_alloc | apply pw_below_drewN | apply below_drew1) | exact HB.out)⟩

/-! ### strconv_Itoa: function 32 -/
def strconv_Itoa.f (a0 : Int) : Option ByteArray := if -9223372036854775808 ≤ a0 ∧ a0 ≤ 9223372036854775807 then some ⟨(Lib.itoa a0).toArray⟩ else none
theorem strconv_Itoa.calls (a0 : Int) (r : ByteArray) (w : World) (h : strconv_Itoa.f a0 = some r) (hT_ : YtjbihflpjkaifaaDoorW.Tab.TabOK w) :
    Calls Tryd.prog 32 #[.int .i64 a0] w fun e w' => e = .returned (.string r) ∧ Below w.heap.size w w' := by
  unfold strconv_Itoa.f at h
  by_cases hm : -9223372036854775808 ≤ a0 ∧ a0 ≤ 9223372036854775807
  · rw [if_pos hm] at h
    obtain rfl := Option.some.inj h
    refine (Go.Proofs.Tryd.strconv_Itoa a0 hm.1 hm.2 w hT_).mono fun e w' hh => ⟨hh.1, ?_⟩
    obtain ⟨_, k, os, rfl⟩ := hh
    exact YtjbihflpjkaifaaDoorW.Tab.below_grow_drewN w k os
  · rw [if_neg hm] at h
    cases h

/-! ### strings_Repeat: function 33 -/
def strings_Repeat.f (a0 : ByteArray) (a1 : Int) : Option ByteArray := if 0 ≤ a1 ∧ a1 ≤ 1000000 ∧ a0.size ≤ 1000000 then some ⟨(Lib.repeatL a0.data.toList a1.toNat).toArray⟩ else none
theorem strings_Repeat.calls (a0 : ByteArray) (a1 : Int) (r : ByteArray) (w : World) (h : strings_Repeat.f a0 a1 = some r) :
    Calls Tryd.prog 33 #[.string a0, .int .i64 a1] w fun e w' => e = .returned (.string r) ∧ Below w.heap.size w w' := by
  unfold strings_Repeat.f at h
  by_cases hm : 0 ≤ a1 ∧ a1 ≤ 1000000 ∧ a0.size ≤ 1000000
  · rw [if_pos hm] at h
    obtain rfl := Option.some.inj h
    obtain ⟨n, rfl⟩ : ∃ n : Nat, a1 = (n : Int) := ⟨a1.toNat, by omega⟩
    have hn : n ≤ 1000000 := by omega
    refine Go.Proofs.Tryd.strings_Repeat a0 n w (by omega) ?_
    exact Nat.le_trans (Nat.mul_le_mul hm.2.2 hn) (by decide)
  · rw [if_neg hm] at h
    cases h

end Go.Proofs.YtjbihflpjkaifaaDoor.G
