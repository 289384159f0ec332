-- printed by wip/tool/gprint.py, a program of this work, out of the translation; Lean checks it
import Derived.Test.YtjbihflpjkaifaaDoorGx0
import Derived.Test.YtjbihflpjkaifaaDoorGx1
import Derived.Test.YtjbihflpjkaifaaDoorGx3
import Derived.Test.YtjbihflpjkaifaaDoorGx4
import Derived.Test.YtjbihflpjkaifaaDoorGx6
import Derived.Test.YtjbihflpjkaifaaDoorGx8
namespace Go.Proofs.YtjbihflpjkaifaaDoor.G
open Go.RowKit Go.Proofs.YtjbihflpjkaifaaDoorW.PrintWords Go.Proofs.YtjbihflpjkaifaaDoorW.PrintLast Go.Proofs.YtjbihflpjkaifaaDoorW.PrintMore Go.Proofs.YtjbihflpjkaifaaDoorW.VWords Go.Proofs.YtjbihflpjkaifaaDoorW.Tab
attribute [local go_sem] max2_int min2_int max_two min_two max_three min_three max_four min_four   -- for this text's walks alone
set_option linter.unusedVariables false
set_option linter.unusedSimpArgs false

/-! ### interlocutorlaw2_DecNear: function 7 -/
def interlocutorlaw2_DecNear.f (k : Nat) (a0 : Int) (a1 : Int) : Option (Bool) := (interlocutorlaw2_known.f k).bind fun t190 => (if t190 = true then ((interlocutorlaw2_within.f a0 1125899906842624).bind fun t191 => ((interlocutorlaw2_within.f a1 16).bind fun t192 => ((dec_Cmp.f k (wrap64 (t191 - 562949953421312)) t192 (wrap64 ((wrap64 (t191 - 562949953421312)) + 1)) t192).bind fun t193 => (if t193 = (-1) then ((dec_Cmp.f k (wrap64 ((wrap64 (t191 - 562949953421312)) + 1)) t192 (wrap64 (t191 - 562949953421312)) t192).bind fun t194 => (if t194 = 1 then ((dec_Cmp.f k (wrap64 (10 * (wrap64 (t191 - 562949953421312)))) (wrap64 (t192 + 1)) (wrap64 (t191 - 562949953421312)) t192).bind fun t195 => (if t195 = 0 then ((dec_Cmp.f k (wrap64 ((wrap64 (10 * (wrap64 (t191 - 562949953421312)))) + 1)) (wrap64 (t192 + 1)) (wrap64 (t191 - 562949953421312)) t192).bind fun t196 => (some (t196 == 1))) else (some false))) else (some false))) else (some false))))) else (some false))
theorem interlocutorlaw2_DecNear.mono : ∀ a0 a1 k, LeO (interlocutorlaw2_DecNear.f k a0 a1) (interlocutorlaw2_DecNear.f (k + 1) a0 a1) := by
  intro a0 a1 k
  unfold interlocutorlaw2_DecNear.f
  repeat' first
      | (with_reducible exact dec_Cmp.mono _ _ _ _ _)
      | (with_reducible exact interlocutorlaw2_known.mono _)
      | (with_reducible exact LeO.refl _)
      | (with_reducible exact LeO.none _)
      | (with_reducible refine LeO.ite ?_ ?_)
      | (with_reducible refine LeO.bind ?_ (fun _ => ?_))
      | exact dec_Cmp.mono _ _ _ _ _
      | exact interlocutorlaw2_known.mono _
      | exact LeO.none _
      | refine LeO.ite ?_ ?_
      | refine LeO.bind ?_ (fun _ => ?_)
set_option maxHeartbeats 8000000 in
set_option maxRecDepth 100000 in
theorem interlocutorlaw2_DecNear.calls (k : Nat) (a0 : Int) (a1 : Int) (r : Bool) (w : World) (h : interlocutorlaw2_DecNear.f k a0 a1 = some r) (hT_ : TabOK w) :
    Calls Tryd.prog 7 #[.int .i64 a0, .int .i64 a1] w fun e w' => e = .returned (.bool r) ∧ Below w.heap.size w w' := by
  have HT_ := Aside0.mk hT_
  clear hT_
  have HB := Aside0.mk (Below.refl w.heap.size w)
  have H : ((interlocutorlaw2_known.f k).bind fun t190 => (if t190 = true then ((interlocutorlaw2_within.f a0 1125899906842624).bind fun t191 => ((interlocutorlaw2_within.f a1 16).bind fun t192 => ((dec_Cmp.f k (wrap64 (t191 - 562949953421312)) t192 (wrap64 ((wrap64 (t191 - 562949953421312)) + 1)) t192).bind fun t193 => (if t193 = (-1) then ((dec_Cmp.f k (wrap64 ((wrap64 (t191 - 562949953421312)) + 1)) t192 (wrap64 (t191 - 562949953421312)) t192).bind fun t194 => (if t194 = 1 then ((dec_Cmp.f k (wrap64 (10 * (wrap64 (t191 - 562949953421312)))) (wrap64 (t192 + 1)) (wrap64 (t191 - 562949953421312)) t192).bind fun t195 => (if t195 = 0 then ((dec_Cmp.f k (wrap64 ((wrap64 (10 * (wrap64 (t191 - 562949953421312)))) + 1)) (wrap64 (t192 + 1)) (wrap64 (t191 - 562949953421312)) t192).bind fun t196 => (some (t196 == 1))) else (some false))) else (some false))) else (some false))))) else (some false))) = some r := h
  clear h
  replace H := Option.bind_eq_some_iff.mp H
  obtain ⟨t190, A30, H⟩ := H
  replace H : (if t190 = true then ((interlocutorlaw2_within.f a0 1125899906842624).bind fun t191 => ((interlocutorlaw2_within.f a1 16).bind fun t192 => ((dec_Cmp.f k (wrap64 (t191 - 562949953421312)) t192 (wrap64 ((wrap64 (t191 - 562949953421312)) + 1)) t192).bind fun t193 => (if t193 = (-1) then ((dec_Cmp.f k (wrap64 ((wrap64 (t191 - 562949953421312)) + 1)) t192 (wrap64 (t191 - 562949953421312)) t192).bind fun t194 => (if t194 = 1 then ((dec_Cmp.f k (wrap64 (10 * (wrap64 (t191 - 562949953421312)))) (wrap64 (t192 + 1)) (wrap64 (t191 - 562949953421312)) t192).bind fun t195 => (if t195 = 0 then ((dec_Cmp.f k (wrap64 ((wrap64 (10 * (wrap64 (t191 - 562949953421312)))) + 1)) (wrap64 (t192 + 1)) (wrap64 (t191 - 562949953421312)) t192).bind fun t196 => (some (t196 == 1))) else (some false))) else (some false))) else (some false))))) else (some false)) = some r := H
  have A3 := Aside0.mk A30
  clear A30
  by_cases c4 : t190 = true
  · subst c4
    have H1 : ((interlocutorlaw2_within.f a0 1125899906842624).bind fun t191 => ((interlocutorlaw2_within.f a1 16).bind fun t192 => ((dec_Cmp.f k (wrap64 (t191 - 562949953421312)) t192 (wrap64 ((wrap64 (t191 - 562949953421312)) + 1)) t192).bind fun t193 => (if t193 = (-1) then ((dec_Cmp.f k (wrap64 ((wrap64 (t191 - 562949953421312)) + 1)) t192 (wrap64 (t191 - 562949953421312)) t192).bind fun t194 => (if t194 = 1 then ((dec_Cmp.f k (wrap64 (10 * (wrap64 (t191 - 562949953421312)))) (wrap64 (t192 + 1)) (wrap64 (t191 - 562949953421312)) t192).bind fun t195 => (if t195 = 0 then ((dec_Cmp.f k (wrap64 ((wrap64 (10 * (wrap64 (t191 - 562949953421312)))) + 1)) (wrap64 (t192 + 1)) (wrap64 (t191 - 562949953421312)) t192).bind fun t196 => (some (t196 == 1))) else (some false))) else (some false))) else (some false))))) = some r := by rw [if_pos rfl] at H; exact H
    clear H
    have H := H1
    clear H1
    replace H := Option.bind_eq_some_iff.mp H
    obtain ⟨t191, A50, H⟩ := H
    replace H : ((interlocutorlaw2_within.f a1 16).bind fun t192 => ((dec_Cmp.f k (wrap64 (t191 - 562949953421312)) t192 (wrap64 ((wrap64 (t191 - 562949953421312)) + 1)) t192).bind fun t193 => (if t193 = (-1) then ((dec_Cmp.f k (wrap64 ((wrap64 (t191 - 562949953421312)) + 1)) t192 (wrap64 (t191 - 562949953421312)) t192).bind fun t194 => (if t194 = 1 then ((dec_Cmp.f k (wrap64 (10 * (wrap64 (t191 - 562949953421312)))) (wrap64 (t192 + 1)) (wrap64 (t191 - 562949953421312)) t192).bind fun t195 => (if t195 = 0 then ((dec_Cmp.f k (wrap64 ((wrap64 (10 * (wrap64 (t191 - 562949953421312)))) + 1)) (wrap64 (t192 + 1)) (wrap64 (t191 - 562949953421312)) t192).bind fun t196 => (some (t196 == 1))) else (some false))) else (some false))) else (some false)))) = some r := H
    have A5 := Aside0.mk A50
    clear A50
    replace H := Option.bind_eq_some_iff.mp H
    obtain ⟨t192, A60, H⟩ := H
    replace H : ((dec_Cmp.f k (wrap64 (t191 - 562949953421312)) t192 (wrap64 ((wrap64 (t191 - 562949953421312)) + 1)) t192).bind fun t193 => (if t193 = (-1) then ((dec_Cmp.f k (wrap64 ((wrap64 (t191 - 562949953421312)) + 1)) t192 (wrap64 (t191 - 562949953421312)) t192).bind fun t194 => (if t194 = 1 then ((dec_Cmp.f k (wrap64 (10 * (wrap64 (t191 - 562949953421312)))) (wrap64 (t192 + 1)) (wrap64 (t191 - 562949953421312)) t192).bind fun t195 => (if t195 = 0 then ((dec_Cmp.f k (wrap64 ((wrap64 (10 * (wrap64 (t191 - 562949953421312)))) + 1)) (wrap64 (t192 + 1)) (wrap64 (t191 - 562949953421312)) t192).bind fun t196 => (some (t196 == 1))) else (some false))) else (some false))) else (some false))) = some r := H
    have A6 := Aside0.mk A60
    clear A60
    replace H := Option.bind_eq_some_iff.mp H
    obtain ⟨t193, A70, H⟩ := H
    replace H : (if t193 = (-1) then ((dec_Cmp.f k (wrap64 ((wrap64 (t191 - 562949953421312)) + 1)) t192 (wrap64 (t191 - 562949953421312)) t192).bind fun t194 => (if t194 = 1 then ((dec_Cmp.f k (wrap64 (10 * (wrap64 (t191 - 562949953421312)))) (wrap64 (t192 + 1)) (wrap64 (t191 - 562949953421312)) t192).bind fun t195 => (if t195 = 0 then ((dec_Cmp.f k (wrap64 ((wrap64 (10 * (wrap64 (t191 - 562949953421312)))) + 1)) (wrap64 (t192 + 1)) (wrap64 (t191 - 562949953421312)) t192).bind fun t196 => (some (t196 == 1))) else (some false))) else (some false))) else (some false)) = some r := H
    have A7 := Aside0.mk A70
    clear A70
    by_cases c8 : t193 = (-1)
    · rw [if_pos c8] at H
      have c8b0 : (t193 == (-1)) = true := beq_iff_eq.mpr c8
      have c8b1 : (t193 != (-1)) = false := bne_eq_false_iff_eq.mpr c8
      clear c8
      replace H := Option.bind_eq_some_iff.mp H
      obtain ⟨t194, A90, H⟩ := H
      replace H : (if t194 = 1 then ((dec_Cmp.f k (wrap64 (10 * (wrap64 (t191 - 562949953421312)))) (wrap64 (t192 + 1)) (wrap64 (t191 - 562949953421312)) t192).bind fun t195 => (if t195 = 0 then ((dec_Cmp.f k (wrap64 ((wrap64 (10 * (wrap64 (t191 - 562949953421312)))) + 1)) (wrap64 (t192 + 1)) (wrap64 (t191 - 562949953421312)) t192).bind fun t196 => (some (t196 == 1))) else (some false))) else (some false)) = some r := H
      have A9 := Aside0.mk A90
      clear A90
      by_cases c10 : t194 = 1
      · rw [if_pos c10] at H
        have c10b0 : (t194 == 1) = true := beq_iff_eq.mpr c10
        have c10b1 : (t194 != 1) = false := bne_eq_false_iff_eq.mpr c10
        clear c10
        replace H := Option.bind_eq_some_iff.mp H
        obtain ⟨t195, A110, H⟩ := H
        replace H : (if t195 = 0 then ((dec_Cmp.f k (wrap64 ((wrap64 (10 * (wrap64 (t191 - 562949953421312)))) + 1)) (wrap64 (t192 + 1)) (wrap64 (t191 - 562949953421312)) t192).bind fun t196 => (some (t196 == 1))) else (some false)) = some r := H
        have A11 := Aside0.mk A110
        clear A110
        by_cases c12 : t195 = 0
        · rw [if_pos c12] at H
          have c12b0 : (t195 == 0) = true := beq_iff_eq.mpr c12
          have c12b1 : (t195 != 0) = false := bne_eq_false_iff_eq.mpr c12
          clear c12
          replace H := Option.bind_eq_some_iff.mp H
          obtain ⟨t196, A130, H⟩ := H
          replace H : (some (t196 == 1)) = some r := H
          have A13 := Aside0.mk A130
          clear A130
          obtain rfl := Option.some.inj H
          go_enter Tryd.func7, Tryd.ntmps7
          go_wp2_with (first | ((with_reducible refine gate_callee (f := 13) rfl ?_); refine goesL_ (some 7) rfl rfl Tryd.func13 (by kernel_rfl) rfl #[] rfl (by (try simp only [List.map_toArray, List.map_cons, List.map_nil]); first | done | rfl | (simp only [List.length_drop, List.length_take]; rfl)) ?_; (with_reducible refine (interlocutorlaw2_known.calls k  true _ A3.out ?hT_).mono ?_); (case hT_ => first | exact HT_.out | exact tab_below HT_.out (by repeat (first | (with_reducible first | exact HB.out | apply below_alloc | apply pw_below_drewN | apply below_drew1) | exact HB.out))); rintro e w14 ⟨rfl, hb⟩; refine ⟨_, rfl, ?_⟩; have n0_ := Aside0.mk (below_step (by repeat (first | (with_reducible first | exact HB.out | apply below_alloc | apply pw_below_drewN | apply below_drew1) | exact HB.out)) hb); clear HB; have HB := n0_; clear n0_; (try clear hb); (try clear hb2); (try clear hk); (try clear hi)) | ((with_reducible refine gate_callee (f := 18) rfl ?_); refine goesL_ (some 10) rfl rfl Tryd.func18 (by kernel_rfl) rfl #[.int .i64 a0, .int .i64 1125899906842624] rfl (by (try simp only [List.map_toArray, List.map_cons, List.map_nil]); first | done | rfl | (simp only [List.length_drop, List.length_take]; rfl)) ?_; (with_reducible refine (interlocutorlaw2_within.calls a0 1125899906842624 t191 _ A5.out).mono ?_); rintro e w' ⟨rfl, ⟨nd, rfl⟩⟩; refine ⟨_, rfl, ?_⟩) | ((with_reducible refine gate_callee (f := 18) rfl ?_); refine goesL_ (some 13) rfl rfl Tryd.func18 (by kernel_rfl) rfl #[.int .i64 a1, .int .i64 16] rfl (by (try simp only [List.map_toArray, List.map_cons, List.map_nil]); first | done | rfl | (simp only [List.length_drop, List.length_take]; rfl)) ?_; (with_reducible refine (interlocutorlaw2_within.calls a1 16 t192 _ A6.out).mono ?_); rintro e w' ⟨rfl, ⟨nd, rfl⟩⟩; refine ⟨_, rfl, ?_⟩) | ((with_reducible refine gate_callee (f := 17) rfl ?_); refine goesL_ (some 19) rfl rfl Tryd.func17 (by kernel_rfl) rfl #[.int .i64 (wrap64 (t191 - 562949953421312)), .int .i64 t192, .int .i64 (wrap64 ((wrap64 (t191 - 562949953421312)) + 1)), .int .i64 t192] rfl (by (try simp only [List.map_toArray, List.map_cons, List.map_nil]); first | done | rfl | (simp only [List.length_drop, List.length_take]; rfl)) ?_; (with_reducible refine (dec_Cmp.calls k (wrap64 (t191 - 562949953421312)) t192 (wrap64 ((wrap64 (t191 - 562949953421312)) + 1)) t192 t193 _ A7.out).mono ?_); rintro e w15 ⟨rfl, hb⟩; refine ⟨_, rfl, ?_⟩; have n0_ := Aside0.mk (below_step (by repeat (first | (with_reducible first | exact HB.out | apply below_alloc | apply pw_below_drewN | apply below_drew1) | exact HB.out)) hb); clear HB; have HB := n0_; clear n0_; (try clear hb); (try clear hb2); (try clear hk); (try clear hi)) | (go_at_call 17; (with_reducible refine (dec_Cmp.calls k (wrap64 ((wrap64 (t191 - 562949953421312)) + 1)) t192 (wrap64 (t191 - 562949953421312)) t192 t194 _ A9.out).mono ?_); rintro e w16 ⟨rfl, hb⟩; have n0_ := Aside0.mk (below_step (by repeat (first | (with_reducible first | exact HB.out | apply below_alloc | apply pw_below_drewN | apply below_drew1) | exact HB.out)) hb); clear HB; have HB := n0_; clear n0_; (try clear hb); (try clear hb2); (try clear hk); (try clear hi)) | (go_at_call 17; (with_reducible refine (dec_Cmp.calls k (wrap64 (10 * (wrap64 (t191 - 562949953421312)))) (wrap64 (t192 + 1)) (wrap64 (t191 - 562949953421312)) t192 t195 _ A11.out).mono ?_); rintro e w17 ⟨rfl, hb⟩; have n0_ := Aside0.mk (below_step (by repeat (first | (with_reducible first | exact HB.out | apply below_alloc | apply pw_below_drewN | apply below_drew1) | exact HB.out)) hb); clear HB; have HB := n0_; clear n0_; (try clear hb); (try clear hb2); (try clear hk); (try clear hi)) | (go_at_call 17; (with_reducible refine (dec_Cmp.calls k (wrap64 ((wrap64 (10 * (wrap64 (t191 - 562949953421312)))) + 1)) (wrap64 (t192 + 1)) (wrap64 (t191 - 562949953421312)) t192 t196 _ A13.out).mono ?_); rintro e w18 ⟨rfl, hb⟩; have n0_ := Aside0.mk (below_step (by repeat (first | (with_reducible first | exact HB.out | apply below_alloc | apply pw_below_drewN | apply below_drew1) | exact HB.out)) hb); clear HB; have HB := n0_; clear n0_; (try clear hb); (try clear hb2); (try clear hk); (try clear hi)))
          go_ret
          exact ⟨by first | rfl | (simp [errW_none, errW_some] <;> rfl) | (simp [*, errW_none, errW_some] <;> rfl), by repeat (first | (with_reducible first | exact HB.out | apply below_alloc | apply pw_below_drewN | apply below_drew1) | exact HB.out)⟩
        · rw [if_neg c12] at H
          have c12b0 : (t195 == 0) = false := beq_eq_false_iff_ne.mpr c12
          have c12b1 : (t195 != 0) = true := bne_iff_ne.mpr c12
          obtain rfl := Option.some.inj H
          go_enter Tryd.func7, Tryd.ntmps7
          go_wp2_with (first | ((with_reducible refine gate_callee (f := 13) rfl ?_); refine goesL_ (some 7) rfl rfl Tryd.func13 (by kernel_rfl) rfl #[] rfl (by (try simp only [List.map_toArray, List.map_cons, List.map_nil]); first | done | rfl | (simp only [List.length_drop, List.length_take]; rfl)) ?_; (with_reducible refine (interlocutorlaw2_known.calls k  true _ A3.out ?hT_).mono ?_); (case hT_ => first | exact HT_.out | exact tab_below HT_.out (by repeat (first | (with_reducible first | exact HB.out | apply below_alloc | apply pw_below_drewN | apply below_drew1) | exact HB.out))); rintro e w19 ⟨rfl, hb⟩; refine ⟨_, rfl, ?_⟩; have n0_ := Aside0.mk (below_step (by repeat (first | (with_reducible first | exact HB.out | apply below_alloc | apply pw_below_drewN | apply below_drew1) | exact HB.out)) hb); clear HB; have HB := n0_; clear n0_; (try clear hb); (try clear hb2); (try clear hk); (try clear hi)) | ((with_reducible refine gate_callee (f := 18) rfl ?_); refine goesL_ (some 10) rfl rfl Tryd.func18 (by kernel_rfl) rfl #[.int .i64 a0, .int .i64 1125899906842624] rfl (by (try simp only [List.map_toArray, List.map_cons, List.map_nil]); first | done | rfl | (simp only [List.length_drop, List.length_take]; rfl)) ?_; (with_reducible refine (interlocutorlaw2_within.calls a0 1125899906842624 t191 _ A5.out).mono ?_); rintro e w' ⟨rfl, ⟨nd, rfl⟩⟩; refine ⟨_, rfl, ?_⟩) | ((with_reducible refine gate_callee (f := 18) rfl ?_); refine goesL_ (some 13) rfl rfl Tryd.func18 (by kernel_rfl) rfl #[.int .i64 a1, .int .i64 16] rfl (by (try simp only [List.map_toArray, List.map_cons, List.map_nil]); first | done | rfl | (simp only [List.length_drop, List.length_take]; rfl)) ?_; (with_reducible refine (interlocutorlaw2_within.calls a1 16 t192 _ A6.out).mono ?_); rintro e w' ⟨rfl, ⟨nd, rfl⟩⟩; refine ⟨_, rfl, ?_⟩) | ((with_reducible refine gate_callee (f := 17) rfl ?_); refine goesL_ (some 19) rfl rfl Tryd.func17 (by kernel_rfl) rfl #[.int .i64 (wrap64 (t191 - 562949953421312)), .int .i64 t192, .int .i64 (wrap64 ((wrap64 (t191 - 562949953421312)) + 1)), .int .i64 t192] rfl (by (try simp only [List.map_toArray, List.map_cons, List.map_nil]); first | done | rfl | (simp only [List.length_drop, List.length_take]; rfl)) ?_; (with_reducible refine (dec_Cmp.calls k (wrap64 (t191 - 562949953421312)) t192 (wrap64 ((wrap64 (t191 - 562949953421312)) + 1)) t192 t193 _ A7.out).mono ?_); rintro e w20 ⟨rfl, hb⟩; refine ⟨_, rfl, ?_⟩; have n0_ := Aside0.mk (below_step (by repeat (first | (with_reducible first | exact HB.out | apply below_alloc | apply pw_below_drewN | apply below_drew1) | exact HB.out)) hb); clear HB; have HB := n0_; clear n0_; (try clear hb); (try clear hb2); (try clear hk); (try clear hi)) | (go_at_call 17; (with_reducible refine (dec_Cmp.calls k (wrap64 ((wrap64 (t191 - 562949953421312)) + 1)) t192 (wrap64 (t191 - 562949953421312)) t192 t194 _ A9.out).mono ?_); rintro e w21 ⟨rfl, hb⟩; have n0_ := Aside0.mk (below_step (by repeat (first | (with_reducible first | exact HB.out | apply below_alloc | apply pw_below_drewN | apply below_drew1) | exact HB.out)) hb); clear HB; have HB := n0_; clear n0_; (try clear hb); (try clear hb2); (try clear hk); (try clear hi)) | (go_at_call 17; (with_reducible refine (dec_Cmp.calls k (wrap64 (10 * (wrap64 (t191 - 562949953421312)))) (wrap64 (t192 + 1)) (wrap64 (t191 - 562949953421312)) t192 t195 _ A11.out).mono ?_); rintro e w22 ⟨rfl, hb⟩; have n0_ := Aside0.mk (below_step (by repeat (first | (with_reducible first | exact HB.out | apply below_alloc | apply pw_below_drewN | apply below_drew1) | exact HB.out)) hb); clear HB; have HB := n0_; clear n0_; (try clear hb); (try clear hb2); (try clear hk); (try clear hi)))
          go_ret
          exact ⟨by first | rfl | (simp [errW_none, errW_some] <;> rfl) | (simp [*, errW_none, errW_some] <;> rfl), by repeat (first | (with_reducible first | exact HB.out | apply below_alloc | apply pw_below_drewN | apply below_drew1) | exact HB.out)⟩
      · rw [if_neg c10] at H
        have c10b0 : (t194 == 1) = false := beq_eq_false_iff_ne.mpr c10
        have c10b1 : (t194 != 1) = true := bne_iff_ne.mpr c10
        obtain rfl := Option.some.inj H
        go_enter Tryd.func7, Tryd.ntmps7
        go_wp2_with (first | ((with_reducible refine gate_callee (f := 13) rfl ?_); refine goesL_ (some 7) rfl rfl Tryd.func13 (by kernel_rfl) rfl #[] rfl (by (try simp only [List.map_toArray, List.map_cons, List.map_nil]); first | done | rfl | (simp only [List.length_drop, List.length_take]; rfl)) ?_; (with_reducible refine (interlocutorlaw2_known.calls k  true _ A3.out ?hT_).mono ?_); (case hT_ => first | exact HT_.out | exact tab_below HT_.out (by repeat (first | (with_reducible first | exact HB.out | apply below_alloc | apply pw_below_drewN | apply below_drew1) | exact HB.out))); rintro e w23 ⟨rfl, hb⟩; refine ⟨_, rfl, ?_⟩; have n0_ := Aside0.mk (below_step (by repeat (first | (with_reducible first | exact HB.out | apply below_alloc | apply pw_below_drewN | apply below_drew1) | exact HB.out)) hb); clear HB; have HB := n0_; clear n0_; (try clear hb); (try clear hb2); (try clear hk); (try clear hi)) | ((with_reducible refine gate_callee (f := 18) rfl ?_); refine goesL_ (some 10) rfl rfl Tryd.func18 (by kernel_rfl) rfl #[.int .i64 a0, .int .i64 1125899906842624] rfl (by (try simp only [List.map_toArray, List.map_cons, List.map_nil]); first | done | rfl | (simp only [List.length_drop, List.length_take]; rfl)) ?_; (with_reducible refine (interlocutorlaw2_within.calls a0 1125899906842624 t191 _ A5.out).mono ?_); rintro e w' ⟨rfl, ⟨nd, rfl⟩⟩; refine ⟨_, rfl, ?_⟩) | ((with_reducible refine gate_callee (f := 18) rfl ?_); refine goesL_ (some 13) rfl rfl Tryd.func18 (by kernel_rfl) rfl #[.int .i64 a1, .int .i64 16] rfl (by (try simp only [List.map_toArray, List.map_cons, List.map_nil]); first | done | rfl | (simp only [List.length_drop, List.length_take]; rfl)) ?_; (with_reducible refine (interlocutorlaw2_within.calls a1 16 t192 _ A6.out).mono ?_); rintro e w' ⟨rfl, ⟨nd, rfl⟩⟩; refine ⟨_, rfl, ?_⟩) | ((with_reducible refine gate_callee (f := 17) rfl ?_); refine goesL_ (some 19) rfl rfl Tryd.func17 (by kernel_rfl) rfl #[.int .i64 (wrap64 (t191 - 562949953421312)), .int .i64 t192, .int .i64 (wrap64 ((wrap64 (t191 - 562949953421312)) + 1)), .int .i64 t192] rfl (by (try simp only [List.map_toArray, List.map_cons, List.map_nil]); first | done | rfl | (simp only [List.length_drop, List.length_take]; rfl)) ?_; (with_reducible refine (dec_Cmp.calls k (wrap64 (t191 - 562949953421312)) t192 (wrap64 ((wrap64 (t191 - 562949953421312)) + 1)) t192 t193 _ A7.out).mono ?_); rintro e w24 ⟨rfl, hb⟩; refine ⟨_, rfl, ?_⟩; have n0_ := Aside0.mk (below_step (by repeat (first | (with_reducible first | exact HB.out | apply below_alloc | apply pw_below_drewN | apply below_drew1) | exact HB.out)) hb); clear HB; have HB := n0_; clear n0_; (try clear hb); (try clear hb2); (try clear hk); (try clear hi)) | (go_at_call 17; (with_reducible refine (dec_Cmp.calls k (wrap64 ((wrap64 (t191 - 562949953421312)) + 1)) t192 (wrap64 (t191 - 562949953421312)) t192 t194 _ A9.out).mono ?_); rintro e w25 ⟨rfl, hb⟩; have n0_ := Aside0.mk (below_step (by repeat (first | (with_reducible first | exact HB.out | apply below_alloc | apply pw_below_drewN | apply below_drew1) | exact HB.out)) hb); clear HB; have HB := n0_; clear n0_; (try clear hb); (try clear hb2); (try clear hk); (try clear hi)))
        go_ret
        exact ⟨by first | rfl | (simp [errW_none, errW_some] <;> rfl) | (simp [*, errW_none, errW_some] <;> rfl), by repeat (first | (with_reducible first | exact HB.out | apply below_alloc | apply pw_below_drewN | apply below_drew1) | exact HB.out)⟩
    · rw [if_neg c8] at H
      have c8b0 : (t193 == (-1)) = false := beq_eq_false_iff_ne.mpr c8
      have c8b1 : (t193 != (-1)) = true := bne_iff_ne.mpr c8
      obtain rfl := Option.some.inj H
      go_enter Tryd.func7, Tryd.ntmps7
      go_wp2_with (first | ((with_reducible refine gate_callee (f := 13) rfl ?_); refine goesL_ (some 7) rfl rfl Tryd.func13 (by kernel_rfl) rfl #[] rfl (by (try simp only [List.map_toArray, List.map_cons, List.map_nil]); first | done | rfl | (simp only [List.length_drop, List.length_take]; rfl)) ?_; (with_reducible refine (interlocutorlaw2_known.calls k  true _ A3.out ?hT_).mono ?_); (case hT_ => first | exact HT_.out | exact tab_below HT_.out (by repeat (first | (with_reducible first | exact HB.out | apply below_alloc | apply pw_below_drewN | apply below_drew1) | exact HB.out))); rintro e w26 ⟨rfl, hb⟩; refine ⟨_, rfl, ?_⟩; have n0_ := Aside0.mk (below_step (by repeat (first | (with_reducible first | exact HB.out | apply below_alloc | apply pw_below_drewN | apply below_drew1) | exact HB.out)) hb); clear HB; have HB := n0_; clear n0_; (try clear hb); (try clear hb2); (try clear hk); (try clear hi)) | ((with_reducible refine gate_callee (f := 18) rfl ?_); refine goesL_ (some 10) rfl rfl Tryd.func18 (by kernel_rfl) rfl #[.int .i64 a0, .int .i64 1125899906842624] rfl (by (try simp only [List.map_toArray, List.map_cons, List.map_nil]); first | done | rfl | (simp only [List.length_drop, List.length_take]; rfl)) ?_; (with_reducible refine (interlocutorlaw2_within.calls a0 1125899906842624 t191 _ A5.out).mono ?_); rintro e w' ⟨rfl, ⟨nd, rfl⟩⟩; refine ⟨_, rfl, ?_⟩) | ((with_reducible refine gate_callee (f := 18) rfl ?_); refine goesL_ (some 13) rfl rfl Tryd.func18 (by kernel_rfl) rfl #[.int .i64 a1, .int .i64 16] rfl (by (try simp only [List.map_toArray, List.map_cons, List.map_nil]); first | done | rfl | (simp only [List.length_drop, List.length_take]; rfl)) ?_; (with_reducible refine (interlocutorlaw2_within.calls a1 16 t192 _ A6.out).mono ?_); rintro e w' ⟨rfl, ⟨nd, rfl⟩⟩; refine ⟨_, rfl, ?_⟩) | ((with_reducible refine gate_callee (f := 17) rfl ?_); refine goesL_ (some 19) rfl rfl Tryd.func17 (by kernel_rfl) rfl #[.int .i64 (wrap64 (t191 - 562949953421312)), .int .i64 t192, .int .i64 (wrap64 ((wrap64 (t191 - 562949953421312)) + 1)), .int .i64 t192] rfl (by (try simp only [List.map_toArray, List.map_cons, List.map_nil]); first | done | rfl | (simp only [List.length_drop, List.length_take]; rfl)) ?_; (with_reducible refine (dec_Cmp.calls k (wrap64 (t191 - 562949953421312)) t192 (wrap64 ((wrap64 (t191 - 562949953421312)) + 1)) t192 t193 _ A7.out).mono ?_); rintro e w27 ⟨rfl, hb⟩; refine ⟨_, rfl, ?_⟩; have n0_ := Aside0.mk (below_step (by repeat (first | (with_reducible first | exact HB.out | apply below_alloc | apply pw_below_drewN | apply below_drew1) | exact HB.out)) hb); clear HB; have HB := n0_; clear n0_; (try clear hb); (try clear hb2); (try clear hk); (try clear hi)))
      go_ret
      exact ⟨by first | rfl | (simp [errW_none, errW_some] <;> rfl) | (simp [*, errW_none, errW_some] <;> rfl), by repeat (first | (with_reducible first | exact HB.out | apply below_alloc | apply pw_below_drewN | apply below_drew1) | exact HB.out)⟩
  · replace c4 := Bool.eq_false_iff.mpr c4
    subst c4
    have H1 : (some false) = some r := by rw [if_neg (show ¬ (false = true) by decide)] at H; exact H
    clear H
    have H := H1
    clear H1
    obtain rfl := Option.some.inj H
    go_enter Tryd.func7, Tryd.ntmps7
    go_wp2_with (first | ((with_reducible refine gate_callee (f := 13) rfl ?_); refine goesL_ (some 7) rfl rfl Tryd.func13 (by kernel_rfl) rfl #[] rfl (by (try simp only [List.map_toArray, List.map_cons, List.map_nil]); first | done | rfl | (simp only [List.length_drop, List.length_take]; rfl)) ?_; (with_reducible refine (interlocutorlaw2_known.calls k  false _ A3.out ?hT_).mono ?_); (case hT_ => first | exact HT_.out | exact tab_below HT_.out (by repeat (first | (with_reducible first | exact HB.out | apply below_alloc | apply pw_below_drewN | apply below_drew1) | exact HB.out))); rintro e w28 ⟨rfl, hb⟩; refine ⟨_, rfl, ?_⟩; have n0_ := Aside0.mk (below_step (by repeat (first | (with_reducible first | exact HB.out | apply below_alloc | apply pw_below_drewN | apply below_drew1) | exact HB.out)) hb); clear HB; have HB := n0_; clear n0_; (try clear hb); (try clear hb2); (try clear hk); (try clear hi)))
    go_ret
    exact ⟨by first | rfl | (simp [errW_none, errW_some] <;> rfl) | (simp [*, errW_none, errW_some] <;> rfl), by repeat (first | (with_reducible first | exact HB.out | apply below_alloc | apply pw_below_drewN | apply below_drew1) | exact HB.out)⟩

/-- THE ONE PURE STATEMENT of interlocutorlaw2_DecNear: yours. -/
def interlocutorlaw2_DecNear.Pure : Prop := ∀ (a0 : Int) (a1 : Int), (Lit.int .i64 a0).wf = true → (Lit.int .i64 a1).wf = true → ∃ k, interlocutorlaw2_DecNear.f k a0 a1 = some true
theorem interlocutorlaw2_DecNear.walk (P : interlocutorlaw2_DecNear.Pure) (a0 : Int) (a1 : Int) (w : World) (w0 : (Lit.int .i64 a0).wf = true) (w1 : (Lit.int .i64 a1).wf = true) (hT_ : TabOK w) :
    Calls Tryd.prog 7 #[.int .i64 a0, .int .i64 a1] w fun e w' => e = .returned (.bool true) ∧ Below w.heap.size w w' := by
  obtain ⟨k, h⟩ := P a0 a1 w0 w1
  refine (interlocutorlaw2_DecNear.calls k a0 a1 true w h hT_).mono ?_
  rintro e w' ⟨rfl, hd⟩
  exact ⟨rfl, hd⟩

/-! ### interlocutorlaw2_DecWhole: function 8 -/
def interlocutorlaw2_DecWhole.f (k : Nat) (a0 : Int) (a1 : Int) : Option (Bool) := (interlocutorlaw2_known.f k).bind fun t197 => (if t197 = true then ((interlocutorlaw2_within.f a0 1000000).bind fun t198 => ((interlocutorlaw2_within.f a1 12).bind fun t199 => ((interlocutorref2_Ten.f k t199).bind fun t200 => ((dec_Norm.f (wrap64 (t198 * t200)) t199).bind fun bt201 => (if bt201.1 = t198 then (if bt201.2 = 0 then ((dec_Cmp.f k (wrap64 (t198 * t200)) t199 t198 0).bind fun t203 => (if t203 = 0 then (if t199 > 0 then (some true) else ((dec_Text.f (wrap64 (t198 * t200)) t199).bind fun t204 => ((dec_Text.f t198 0).bind fun t205 => (some (t204.toList == t205.toList))))) else (some false))) else (some false)) else (some false)))))) else (some false))
theorem interlocutorlaw2_DecWhole.mono : ∀ a0 a1 k, LeO (interlocutorlaw2_DecWhole.f k a0 a1) (interlocutorlaw2_DecWhole.f (k + 1) a0 a1) := by
  intro a0 a1 k
  unfold interlocutorlaw2_DecWhole.f
  repeat' first
      | (with_reducible exact dec_Cmp.mono _ _ _ _ _)
      | (with_reducible exact interlocutorlaw2_known.mono _)
      | (with_reducible exact interlocutorref2_Ten.mono _ _)
      | (with_reducible exact LeO.refl _)
      | (with_reducible exact LeO.none _)
      | (with_reducible refine LeO.ite ?_ ?_)
      | (with_reducible refine LeO.bind ?_ (fun _ => ?_))
      | exact dec_Cmp.mono _ _ _ _ _
      | exact interlocutorlaw2_known.mono _
      | exact interlocutorref2_Ten.mono _ _
      | exact LeO.none _
      | refine LeO.ite ?_ ?_
      | refine LeO.bind ?_ (fun _ => ?_)
set_option maxHeartbeats 8000000 in
set_option maxRecDepth 100000 in
theorem interlocutorlaw2_DecWhole.calls (k : Nat) (a0 : Int) (a1 : Int) (r : Bool) (w : World) (h : interlocutorlaw2_DecWhole.f k a0 a1 = some r) (hT_ : TabOK w) :
    Calls Tryd.prog 8 #[.int .i64 a0, .int .i64 a1] w fun e w' => e = .returned (.bool r) ∧ Below w.heap.size w w' := by
  have HT_ := Aside0.mk hT_
  clear hT_
  have HB := Aside0.mk (Below.refl w.heap.size w)
  have H : ((interlocutorlaw2_known.f k).bind fun t197 => (if t197 = true then ((interlocutorlaw2_within.f a0 1000000).bind fun t198 => ((interlocutorlaw2_within.f a1 12).bind fun t199 => ((interlocutorref2_Ten.f k t199).bind fun t200 => ((dec_Norm.f (wrap64 (t198 * t200)) t199).bind fun bt201 => (if bt201.1 = t198 then (if bt201.2 = 0 then ((dec_Cmp.f k (wrap64 (t198 * t200)) t199 t198 0).bind fun t203 => (if t203 = 0 then (if t199 > 0 then (some true) else ((dec_Text.f (wrap64 (t198 * t200)) t199).bind fun t204 => ((dec_Text.f t198 0).bind fun t205 => (some (t204.toList == t205.toList))))) else (some false))) else (some false)) else (some false)))))) else (some false))) = some r := h
  clear h
  replace H := Option.bind_eq_some_iff.mp H
  obtain ⟨t197, A30, H⟩ := H
  replace H : (if t197 = true then ((interlocutorlaw2_within.f a0 1000000).bind fun t198 => ((interlocutorlaw2_within.f a1 12).bind fun t199 => ((interlocutorref2_Ten.f k t199).bind fun t200 => ((dec_Norm.f (wrap64 (t198 * t200)) t199).bind fun bt201 => (if bt201.1 = t198 then (if bt201.2 = 0 then ((dec_Cmp.f k (wrap64 (t198 * t200)) t199 t198 0).bind fun t203 => (if t203 = 0 then (if t199 > 0 then (some true) else ((dec_Text.f (wrap64 (t198 * t200)) t199).bind fun t204 => ((dec_Text.f t198 0).bind fun t205 => (some (t204.toList == t205.toList))))) else (some false))) else (some false)) else (some false)))))) else (some false)) = some r := H
  have A3 := Aside0.mk A30
  clear A30
  by_cases c4 : t197 = true
  · subst c4
    have H1 : ((interlocutorlaw2_within.f a0 1000000).bind fun t198 => ((interlocutorlaw2_within.f a1 12).bind fun t199 => ((interlocutorref2_Ten.f k t199).bind fun t200 => ((dec_Norm.f (wrap64 (t198 * t200)) t199).bind fun bt201 => (if bt201.1 = t198 then (if bt201.2 = 0 then ((dec_Cmp.f k (wrap64 (t198 * t200)) t199 t198 0).bind fun t203 => (if t203 = 0 then (if t199 > 0 then (some true) else ((dec_Text.f (wrap64 (t198 * t200)) t199).bind fun t204 => ((dec_Text.f t198 0).bind fun t205 => (some (t204.toList == t205.toList))))) else (some false))) else (some false)) else (some false)))))) = some r := by rw [if_pos rfl] at H; exact H
    clear H
    have H := H1
    clear H1
    replace H := Option.bind_eq_some_iff.mp H
    obtain ⟨t198, A50, H⟩ := H
    replace H : ((interlocutorlaw2_within.f a1 12).bind fun t199 => ((interlocutorref2_Ten.f k t199).bind fun t200 => ((dec_Norm.f (wrap64 (t198 * t200)) t199).bind fun bt201 => (if bt201.1 = t198 then (if bt201.2 = 0 then ((dec_Cmp.f k (wrap64 (t198 * t200)) t199 t198 0).bind fun t203 => (if t203 = 0 then (if t199 > 0 then (some true) else ((dec_Text.f (wrap64 (t198 * t200)) t199).bind fun t204 => ((dec_Text.f t198 0).bind fun t205 => (some (t204.toList == t205.toList))))) else (some false))) else (some false)) else (some false))))) = some r := H
    have A5 := Aside0.mk A50
    clear A50
    replace H := Option.bind_eq_some_iff.mp H
    obtain ⟨t199, A60, H⟩ := H
    replace H : ((interlocutorref2_Ten.f k t199).bind fun t200 => ((dec_Norm.f (wrap64 (t198 * t200)) t199).bind fun bt201 => (if bt201.1 = t198 then (if bt201.2 = 0 then ((dec_Cmp.f k (wrap64 (t198 * t200)) t199 t198 0).bind fun t203 => (if t203 = 0 then (if t199 > 0 then (some true) else ((dec_Text.f (wrap64 (t198 * t200)) t199).bind fun t204 => ((dec_Text.f t198 0).bind fun t205 => (some (t204.toList == t205.toList))))) else (some false))) else (some false)) else (some false)))) = some r := H
    have A6 := Aside0.mk A60
    clear A60
    replace H := Option.bind_eq_some_iff.mp H
    obtain ⟨t200, A70, H⟩ := H
    replace H : ((dec_Norm.f (wrap64 (t198 * t200)) t199).bind fun bt201 => (if bt201.1 = t198 then (if bt201.2 = 0 then ((dec_Cmp.f k (wrap64 (t198 * t200)) t199 t198 0).bind fun t203 => (if t203 = 0 then (if t199 > 0 then (some true) else ((dec_Text.f (wrap64 (t198 * t200)) t199).bind fun t204 => ((dec_Text.f t198 0).bind fun t205 => (some (t204.toList == t205.toList))))) else (some false))) else (some false)) else (some false))) = some r := H
    have A7 := Aside0.mk A70
    clear A70
    replace H := Option.bind_eq_some_iff.mp H
    obtain ⟨⟨t201, t202⟩, A80, H⟩ := H
    replace H : (if t201 = t198 then (if t202 = 0 then ((dec_Cmp.f k (wrap64 (t198 * t200)) t199 t198 0).bind fun t203 => (if t203 = 0 then (if t199 > 0 then (some true) else ((dec_Text.f (wrap64 (t198 * t200)) t199).bind fun t204 => ((dec_Text.f t198 0).bind fun t205 => (some (t204.toList == t205.toList))))) else (some false))) else (some false)) else (some false)) = some r := H
    have A8 := Aside0.mk A80
    clear A80
    by_cases c9 : t201 = t198
    · rw [if_pos c9] at H
      have c9b0 : (t201 == t198) = true := beq_iff_eq.mpr c9
      have c9b1 : (t201 != t198) = false := bne_eq_false_iff_eq.mpr c9
      clear c9
      by_cases c10 : t202 = 0
      · rw [if_pos c10] at H
        have c10b0 : (t202 == 0) = true := beq_iff_eq.mpr c10
        have c10b1 : (t202 != 0) = false := bne_eq_false_iff_eq.mpr c10
        clear c10
        replace H := Option.bind_eq_some_iff.mp H
        obtain ⟨t203, A110, H⟩ := H
        replace H : (if t203 = 0 then (if t199 > 0 then (some true) else ((dec_Text.f (wrap64 (t198 * t200)) t199).bind fun t204 => ((dec_Text.f t198 0).bind fun t205 => (some (t204.toList == t205.toList))))) else (some false)) = some r := H
        have A11 := Aside0.mk A110
        clear A110
        by_cases c12 : t203 = 0
        · rw [if_pos c12] at H
          have c12b0 : (t203 == 0) = true := beq_iff_eq.mpr c12
          have c12b1 : (t203 != 0) = false := bne_eq_false_iff_eq.mpr c12
          clear c12
          by_cases c13 : t199 > 0
          · rw [if_pos c13] at H
            have c13b0 : decide (0 < t199) = true := decide_eq_true c13
            clear c13
            obtain rfl := Option.some.inj H
            go_enter Tryd.func8, Tryd.ntmps8
            go_wp2_with (first | ((with_reducible refine gate_callee (f := 13) rfl ?_); refine goesL_ (some 10) rfl rfl Tryd.func13 (by kernel_rfl) rfl #[] rfl (by (try simp only [List.map_toArray, List.map_cons, List.map_nil]); first | done | rfl | (simp only [List.length_drop, List.length_take]; rfl)) ?_; (with_reducible refine (interlocutorlaw2_known.calls k  true _ A3.out ?hT_).mono ?_); (case hT_ => first | exact HT_.out | exact tab_below HT_.out (by repeat (first | (with_reducible first | exact HB.out | apply below_alloc | apply pw_below_drewN | apply below_drew1) | exact HB.out))); rintro e w14 ⟨rfl, hb⟩; refine ⟨_, rfl, ?_⟩; have n0_ := Aside0.mk (below_step (by repeat (first | (with_reducible first | exact HB.out | apply below_alloc | apply pw_below_drewN | apply below_drew1) | exact HB.out)) hb); clear HB; have HB := n0_; clear n0_; (try clear hb); (try clear hb2); (try clear hk); (try clear hi)) | ((with_reducible refine gate_callee (f := 18) rfl ?_); refine goesL_ (some 13) rfl rfl Tryd.func18 (by kernel_rfl) rfl #[.int .i64 a0, .int .i64 1000000] rfl (by (try simp only [List.map_toArray, List.map_cons, List.map_nil]); first | done | rfl | (simp only [List.length_drop, List.length_take]; rfl)) ?_; (with_reducible refine (interlocutorlaw2_within.calls a0 1000000 t198 _ A5.out).mono ?_); rintro e w' ⟨rfl, ⟨nd, rfl⟩⟩; refine ⟨_, rfl, ?_⟩) | ((with_reducible refine gate_callee (f := 18) rfl ?_); refine goesL_ (some 15) rfl rfl Tryd.func18 (by kernel_rfl) rfl #[.int .i64 a1, .int .i64 12] rfl (by (try simp only [List.map_toArray, List.map_cons, List.map_nil]); first | done | rfl | (simp only [List.length_drop, List.length_take]; rfl)) ?_; (with_reducible refine (interlocutorlaw2_within.calls a1 12 t199 _ A6.out).mono ?_); rintro e w' ⟨rfl, ⟨nd, rfl⟩⟩; refine ⟨_, rfl, ?_⟩) | ((with_reducible refine gate_callee (f := 24) rfl ?_); refine goesL_ (some 18) rfl rfl Tryd.func24 (by kernel_rfl) rfl #[.int .i64 t199] rfl (by (try simp only [List.map_toArray, List.map_cons, List.map_nil]); first | done | rfl | (simp only [List.length_drop, List.length_take]; rfl)) ?_; (with_reducible refine (interlocutorref2_Ten.calls k t199 t200 _ A7.out).mono ?_); rintro e w' ⟨rfl, ⟨nd, rfl⟩⟩; refine ⟨_, rfl, ?_⟩) | ((with_reducible refine gate_callee (f := 15) rfl ?_); refine goesL_ (some 23) rfl rfl Tryd.func15 (by kernel_rfl) rfl #[.int .i64 (wrap64 (t198 * t200)), .int .i64 t199] rfl (by (try simp only [List.map_toArray, List.map_cons, List.map_nil]); first | done | rfl | (simp only [List.length_drop, List.length_take]; rfl)) ?_; (with_reducible refine (dec_Norm.calls (wrap64 (t198 * t200)) t199 t201 t202 _ A8.out).mono ?_); rintro e w' ⟨rfl, ⟨nd, rfl⟩⟩; refine ⟨_, rfl, ?_⟩) | (go_at_call 17; (with_reducible refine (dec_Cmp.calls k (wrap64 (t198 * t200)) t199 t198 0 t203 _ A11.out).mono ?_); rintro e w15 ⟨rfl, hb⟩; have n0_ := Aside0.mk (below_step (by repeat (first | (with_reducible first | exact HB.out | apply below_alloc | apply pw_below_drewN | apply below_drew1) | exact HB.out)) hb); clear HB; have HB := n0_; clear n0_; (try clear hb); (try clear hb2); (try clear hk); (try clear hi)))
            go_ret
            exact ⟨by first | rfl | (simp [errW_none, errW_some] <;> rfl) | (simp [*, errW_none, errW_some] <;> rfl), by repeat (first | (with_reducible first | exact HB.out | apply below_alloc | apply pw_below_drewN | apply below_drew1) | exact HB.out)⟩
          · rw [if_neg c13] at H
            have c13b0 : decide (0 < t199) = false := decide_eq_false c13
            clear c13
            replace H := Option.bind_eq_some_iff.mp H
            obtain ⟨t204, A160, H⟩ := H
            replace H : ((dec_Text.f t198 0).bind fun t205 => (some (t204.toList == t205.toList))) = some r := H
            have A16 := Aside0.mk A160
            clear A160
            replace H := Option.bind_eq_some_iff.mp H
            obtain ⟨t205, A170, H⟩ := H
            replace H : (some (t204.toList == t205.toList)) = some r := H
            have A17 := Aside0.mk A170
            clear A170
            obtain rfl := Option.some.inj H
            go_enter Tryd.func8, Tryd.ntmps8
            go_wp2_with (first | ((with_reducible refine gate_callee (f := 13) rfl ?_); refine goesL_ (some 10) rfl rfl Tryd.func13 (by kernel_rfl) rfl #[] rfl (by (try simp only [List.map_toArray, List.map_cons, List.map_nil]); first | done | rfl | (simp only [List.length_drop, List.length_take]; rfl)) ?_; (with_reducible refine (interlocutorlaw2_known.calls k  true _ A3.out ?hT_).mono ?_); (case hT_ => first | exact HT_.out | exact tab_below HT_.out (by repeat (first | (with_reducible first | exact HB.out | apply below_alloc | apply pw_below_drewN | apply below_drew1) | exact HB.out))); rintro e w18 ⟨rfl, hb⟩; refine ⟨_, rfl, ?_⟩; have n0_ := Aside0.mk (below_step (by repeat (first | (with_reducible first | exact HB.out | apply below_alloc | apply pw_below_drewN | apply below_drew1) | exact HB.out)) hb); clear HB; have HB := n0_; clear n0_; (try clear hb); (try clear hb2); (try clear hk); (try clear hi)) | ((with_reducible refine gate_callee (f := 18) rfl ?_); refine goesL_ (some 13) rfl rfl Tryd.func18 (by kernel_rfl) rfl #[.int .i64 a0, .int .i64 1000000] rfl (by (try simp only [List.map_toArray, List.map_cons, List.map_nil]); first | done | rfl | (simp only [List.length_drop, List.length_take]; rfl)) ?_; (with_reducible refine (interlocutorlaw2_within.calls a0 1000000 t198 _ A5.out).mono ?_); rintro e w' ⟨rfl, ⟨nd, rfl⟩⟩; refine ⟨_, rfl, ?_⟩) | ((with_reducible refine gate_callee (f := 18) rfl ?_); refine goesL_ (some 15) rfl rfl Tryd.func18 (by kernel_rfl) rfl #[.int .i64 a1, .int .i64 12] rfl (by (try simp only [List.map_toArray, List.map_cons, List.map_nil]); first | done | rfl | (simp only [List.length_drop, List.length_take]; rfl)) ?_; (with_reducible refine (interlocutorlaw2_within.calls a1 12 t199 _ A6.out).mono ?_); rintro e w' ⟨rfl, ⟨nd, rfl⟩⟩; refine ⟨_, rfl, ?_⟩) | ((with_reducible refine gate_callee (f := 24) rfl ?_); refine goesL_ (some 18) rfl rfl Tryd.func24 (by kernel_rfl) rfl #[.int .i64 t199] rfl (by (try simp only [List.map_toArray, List.map_cons, List.map_nil]); first | done | rfl | (simp only [List.length_drop, List.length_take]; rfl)) ?_; (with_reducible refine (interlocutorref2_Ten.calls k t199 t200 _ A7.out).mono ?_); rintro e w' ⟨rfl, ⟨nd, rfl⟩⟩; refine ⟨_, rfl, ?_⟩) | ((with_reducible refine gate_callee (f := 15) rfl ?_); refine goesL_ (some 23) rfl rfl Tryd.func15 (by kernel_rfl) rfl #[.int .i64 (wrap64 (t198 * t200)), .int .i64 t199] rfl (by (try simp only [List.map_toArray, List.map_cons, List.map_nil]); first | done | rfl | (simp only [List.length_drop, List.length_take]; rfl)) ?_; (with_reducible refine (dec_Norm.calls (wrap64 (t198 * t200)) t199 t201 t202 _ A8.out).mono ?_); rintro e w' ⟨rfl, ⟨nd, rfl⟩⟩; refine ⟨_, rfl, ?_⟩) | (go_at_call 17; (with_reducible refine (dec_Cmp.calls k (wrap64 (t198 * t200)) t199 t198 0 t203 _ A11.out).mono ?_); rintro e w19 ⟨rfl, hb⟩; have n0_ := Aside0.mk (below_step (by repeat (first | (with_reducible first | exact HB.out | apply below_alloc | apply pw_below_drewN | apply below_drew1) | exact HB.out)) hb); clear HB; have HB := n0_; clear n0_; (try clear hb); (try clear hb2); (try clear hk); (try clear hi)) | (go_at_call 21; (with_reducible refine (dec_Text.calls (wrap64 (t198 * t200)) t199 t204 _ A16.out ?hT_).mono ?_); (case hT_ => first | exact HT_.out | exact tab_below HT_.out (by repeat (first | (with_reducible first | exact HB.out | apply below_alloc | apply pw_below_drewN | apply below_drew1) | exact HB.out))); rintro e w20 ⟨rfl, hb⟩; have n0_ := Aside0.mk (below_step (by repeat (first | (with_reducible first | exact HB.out | apply below_alloc | apply pw_below_drewN | apply below_drew1) | exact HB.out)) hb); clear HB; have HB := n0_; clear n0_; (try clear hb); (try clear hb2); (try clear hk); (try clear hi)) | (go_at_call 21; (with_reducible refine (dec_Text.calls t198 0 t205 _ A17.out ?hT_).mono ?_); (case hT_ => first | exact HT_.out | exact tab_below HT_.out (by repeat (first | (with_reducible first | exact HB.out | apply below_alloc | apply pw_below_drewN | apply below_drew1) | exact HB.out))); rintro e w21 ⟨rfl, hb⟩; have n0_ := Aside0.mk (below_step (by repeat (first | (with_reducible first | exact HB.out | apply below_alloc | apply pw_below_drewN | apply below_drew1) | exact HB.out)) hb); clear HB; have HB := n0_; clear n0_; (try clear hb); (try clear hb2); (try clear hk); (try clear hi)))
            go_ret
            exact ⟨by first | rfl | (simp [errW_none, errW_some] <;> rfl) | (simp [*, errW_none, errW_some] <;> rfl), by repeat (first | (with_reducible first | exact HB.out | apply below_alloc | apply pw_below_drewN | apply below_drew1) | exact HB.out)⟩
        · rw [if_neg c12] at H
          have c12b0 : (t203 == 0) = false := beq_eq_false_iff_ne.mpr c12
          have c12b1 : (t203 != 0) = true := bne_iff_ne.mpr c12
          obtain rfl := Option.some.inj H
          go_enter Tryd.func8, Tryd.ntmps8
          go_wp2_with (first | ((with_reducible refine gate_callee (f := 13) rfl ?_); refine goesL_ (some 10) rfl rfl Tryd.func13 (by kernel_rfl) rfl #[] rfl (by (try simp only [List.map_toArray, List.map_cons, List.map_nil]); first | done | rfl | (simp only [List.length_drop, List.length_take]; rfl)) ?_; (with_reducible refine (interlocutorlaw2_known.calls k  true _ A3.out ?hT_).mono ?_); (case hT_ => first | exact HT_.out | exact tab_below HT_.out (by repeat (first | (with_reducible first | exact HB.out | apply below_alloc | apply pw_below_drewN | apply below_drew1) | exact HB.out))); rintro e w22 ⟨rfl, hb⟩; refine ⟨_, rfl, ?_⟩; have n0_ := Aside0.mk (below_step (by repeat (first | (with_reducible first | exact HB.out | apply below_alloc | apply pw_below_drewN | apply below_drew1) | exact HB.out)) hb); clear HB; have HB := n0_; clear n0_; (try clear hb); (try clear hb2); (try clear hk); (try clear hi)) | ((with_reducible refine gate_callee (f := 18) rfl ?_); refine goesL_ (some 13) rfl rfl Tryd.func18 (by kernel_rfl) rfl #[.int .i64 a0, .int .i64 1000000] rfl (by (try simp only [List.map_toArray, List.map_cons, List.map_nil]); first | done | rfl | (simp only [List.length_drop, List.length_take]; rfl)) ?_; (with_reducible refine (interlocutorlaw2_within.calls a0 1000000 t198 _ A5.out).mono ?_); rintro e w' ⟨rfl, ⟨nd, rfl⟩⟩; refine ⟨_, rfl, ?_⟩) | ((with_reducible refine gate_callee (f := 18) rfl ?_); refine goesL_ (some 15) rfl rfl Tryd.func18 (by kernel_rfl) rfl #[.int .i64 a1, .int .i64 12] rfl (by (try simp only [List.map_toArray, List.map_cons, List.map_nil]); first | done | rfl | (simp only [List.length_drop, List.length_take]; rfl)) ?_; (with_reducible refine (interlocutorlaw2_within.calls a1 12 t199 _ A6.out).mono ?_); rintro e w' ⟨rfl, ⟨nd, rfl⟩⟩; refine ⟨_, rfl, ?_⟩) | ((with_reducible refine gate_callee (f := 24) rfl ?_); refine goesL_ (some 18) rfl rfl Tryd.func24 (by kernel_rfl) rfl #[.int .i64 t199] rfl (by (try simp only [List.map_toArray, List.map_cons, List.map_nil]); first | done | rfl | (simp only [List.length_drop, List.length_take]; rfl)) ?_; (with_reducible refine (interlocutorref2_Ten.calls k t199 t200 _ A7.out).mono ?_); rintro e w' ⟨rfl, ⟨nd, rfl⟩⟩; refine ⟨_, rfl, ?_⟩) | ((with_reducible refine gate_callee (f := 15) rfl ?_); refine goesL_ (some 23) rfl rfl Tryd.func15 (by kernel_rfl) rfl #[.int .i64 (wrap64 (t198 * t200)), .int .i64 t199] rfl (by (try simp only [List.map_toArray, List.map_cons, List.map_nil]); first | done | rfl | (simp only [List.length_drop, List.length_take]; rfl)) ?_; (with_reducible refine (dec_Norm.calls (wrap64 (t198 * t200)) t199 t201 t202 _ A8.out).mono ?_); rintro e w' ⟨rfl, ⟨nd, rfl⟩⟩; refine ⟨_, rfl, ?_⟩) | (go_at_call 17; (with_reducible refine (dec_Cmp.calls k (wrap64 (t198 * t200)) t199 t198 0 t203 _ A11.out).mono ?_); rintro e w23 ⟨rfl, hb⟩; have n0_ := Aside0.mk (below_step (by repeat (first | (with_reducible first | exact HB.out | apply below_alloc | apply pw_below_drewN | apply below_drew1) | exact HB.out)) hb); clear HB; have HB := n0_; clear n0_; (try clear hb); (try clear hb2); (try clear hk); (try clear hi)))
          go_ret
          exact ⟨by first | rfl | (simp [errW_none, errW_some] <;> rfl) | (simp [*, errW_none, errW_some] <;> rfl), by repeat (first | (with_reducible first | exact HB.out | apply below_alloc | apply pw_below_drewN | apply below_drew1) | exact HB.out)⟩
      · rw [if_neg c10] at H
        have c10b0 : (t202 == 0) = false := beq_eq_false_iff_ne.mpr c10
        have c10b1 : (t202 != 0) = true := bne_iff_ne.mpr c10
        obtain rfl := Option.some.inj H
        go_enter Tryd.func8, Tryd.ntmps8
        go_wp2_with (first | ((with_reducible refine gate_callee (f := 13) rfl ?_); refine goesL_ (some 10) rfl rfl Tryd.func13 (by kernel_rfl) rfl #[] rfl (by (try simp only [List.map_toArray, List.map_cons, List.map_nil]); first | done | rfl | (simp only [List.length_drop, List.length_take]; rfl)) ?_; (with_reducible refine (interlocutorlaw2_known.calls k  true _ A3.out ?hT_).mono ?_); (case hT_ => first | exact HT_.out | exact tab_below HT_.out (by repeat (first | (with_reducible first | exact HB.out | apply below_alloc | apply pw_below_drewN | apply below_drew1) | exact HB.out))); rintro e w24 ⟨rfl, hb⟩; refine ⟨_, rfl, ?_⟩; have n0_ := Aside0.mk (below_step (by repeat (first | (with_reducible first | exact HB.out | apply below_alloc | apply pw_below_drewN | apply below_drew1) | exact HB.out)) hb); clear HB; have HB := n0_; clear n0_; (try clear hb); (try clear hb2); (try clear hk); (try clear hi)) | ((with_reducible refine gate_callee (f := 18) rfl ?_); refine goesL_ (some 13) rfl rfl Tryd.func18 (by kernel_rfl) rfl #[.int .i64 a0, .int .i64 1000000] rfl (by (try simp only [List.map_toArray, List.map_cons, List.map_nil]); first | done | rfl | (simp only [List.length_drop, List.length_take]; rfl)) ?_; (with_reducible refine (interlocutorlaw2_within.calls a0 1000000 t198 _ A5.out).mono ?_); rintro e w' ⟨rfl, ⟨nd, rfl⟩⟩; refine ⟨_, rfl, ?_⟩) | ((with_reducible refine gate_callee (f := 18) rfl ?_); refine goesL_ (some 15) rfl rfl Tryd.func18 (by kernel_rfl) rfl #[.int .i64 a1, .int .i64 12] rfl (by (try simp only [List.map_toArray, List.map_cons, List.map_nil]); first | done | rfl | (simp only [List.length_drop, List.length_take]; rfl)) ?_; (with_reducible refine (interlocutorlaw2_within.calls a1 12 t199 _ A6.out).mono ?_); rintro e w' ⟨rfl, ⟨nd, rfl⟩⟩; refine ⟨_, rfl, ?_⟩) | ((with_reducible refine gate_callee (f := 24) rfl ?_); refine goesL_ (some 18) rfl rfl Tryd.func24 (by kernel_rfl) rfl #[.int .i64 t199] rfl (by (try simp only [List.map_toArray, List.map_cons, List.map_nil]); first | done | rfl | (simp only [List.length_drop, List.length_take]; rfl)) ?_; (with_reducible refine (interlocutorref2_Ten.calls k t199 t200 _ A7.out).mono ?_); rintro e w' ⟨rfl, ⟨nd, rfl⟩⟩; refine ⟨_, rfl, ?_⟩) | ((with_reducible refine gate_callee (f := 15) rfl ?_); refine goesL_ (some 23) rfl rfl Tryd.func15 (by kernel_rfl) rfl #[.int .i64 (wrap64 (t198 * t200)), .int .i64 t199] rfl (by (try simp only [List.map_toArray, List.map_cons, List.map_nil]); first | done | rfl | (simp only [List.length_drop, List.length_take]; rfl)) ?_; (with_reducible refine (dec_Norm.calls (wrap64 (t198 * t200)) t199 t201 t202 _ A8.out).mono ?_); rintro e w' ⟨rfl, ⟨nd, rfl⟩⟩; refine ⟨_, rfl, ?_⟩))
        go_ret
        exact ⟨by first | rfl | (simp [errW_none, errW_some] <;> rfl) | (simp [*, errW_none, errW_some] <;> rfl), by repeat (first | (with_reducible first | exact HB.out | apply below_alloc | apply pw_below_drewN | apply below_drew1) | exact HB.out)⟩
    · rw [if_neg c9] at H
      have c9b0 : (t201 == t198) = false := beq_eq_false_iff_ne.mpr c9
      have c9b1 : (t201 != t198) = true := bne_iff_ne.mpr c9
      obtain rfl := Option.some.inj H
      go_enter Tryd.func8, Tryd.ntmps8
      go_wp2_with (first | ((with_reducible refine gate_callee (f := 13) rfl ?_); refine goesL_ (some 10) rfl rfl Tryd.func13 (by kernel_rfl) rfl #[] rfl (by (try simp only [List.map_toArray, List.map_cons, List.map_nil]); first | done | rfl | (simp only [List.length_drop, List.length_take]; rfl)) ?_; (with_reducible refine (interlocutorlaw2_known.calls k  true _ A3.out ?hT_).mono ?_); (case hT_ => first | exact HT_.out | exact tab_below HT_.out (by repeat (first | (with_reducible first | exact HB.out | apply below_alloc | apply pw_below_drewN | apply below_drew1) | exact HB.out))); rintro e w25 ⟨rfl, hb⟩; refine ⟨_, rfl, ?_⟩; have n0_ := Aside0.mk (below_step (by repeat (first | (with_reducible first | exact HB.out | apply below_alloc | apply pw_below_drewN | apply below_drew1) | exact HB.out)) hb); clear HB; have HB := n0_; clear n0_; (try clear hb); (try clear hb2); (try clear hk); (try clear hi)) | ((with_reducible refine gate_callee (f := 18) rfl ?_); refine goesL_ (some 13) rfl rfl Tryd.func18 (by kernel_rfl) rfl #[.int .i64 a0, .int .i64 1000000] rfl (by (try simp only [List.map_toArray, List.map_cons, List.map_nil]); first | done | rfl | (simp only [List.length_drop, List.length_take]; rfl)) ?_; (with_reducible refine (interlocutorlaw2_within.calls a0 1000000 t198 _ A5.out).mono ?_); rintro e w' ⟨rfl, ⟨nd, rfl⟩⟩; refine ⟨_, rfl, ?_⟩) | ((with_reducible refine gate_callee (f := 18) rfl ?_); refine goesL_ (some 15) rfl rfl Tryd.func18 (by kernel_rfl) rfl #[.int .i64 a1, .int .i64 12] rfl (by (try simp only [List.map_toArray, List.map_cons, List.map_nil]); first | done | rfl | (simp only [List.length_drop, List.length_take]; rfl)) ?_; (with_reducible refine (interlocutorlaw2_within.calls a1 12 t199 _ A6.out).mono ?_); rintro e w' ⟨rfl, ⟨nd, rfl⟩⟩; refine ⟨_, rfl, ?_⟩) | ((with_reducible refine gate_callee (f := 24) rfl ?_); refine goesL_ (some 18) rfl rfl Tryd.func24 (by kernel_rfl) rfl #[.int .i64 t199] rfl (by (try simp only [List.map_toArray, List.map_cons, List.map_nil]); first | done | rfl | (simp only [List.length_drop, List.length_take]; rfl)) ?_; (with_reducible refine (interlocutorref2_Ten.calls k t199 t200 _ A7.out).mono ?_); rintro e w' ⟨rfl, ⟨nd, rfl⟩⟩; refine ⟨_, rfl, ?_⟩) | ((with_reducible refine gate_callee (f := 15) rfl ?_); refine goesL_ (some 23) rfl rfl Tryd.func15 (by kernel_rfl) rfl #[.int .i64 (wrap64 (t198 * t200)), .int .i64 t199] rfl (by (try simp only [List.map_toArray, List.map_cons, List.map_nil]); first | done | rfl | (simp only [List.length_drop, List.length_take]; rfl)) ?_; (with_reducible refine (dec_Norm.calls (wrap64 (t198 * t200)) t199 t201 t202 _ A8.out).mono ?_); rintro e w' ⟨rfl, ⟨nd, rfl⟩⟩; refine ⟨_, rfl, ?_⟩))
      go_ret
      exact ⟨by first | rfl | (simp [errW_none, errW_some] <;> rfl) | (simp [*, errW_none, errW_some] <;> rfl), by repeat (first | (with_reducible first | exact HB.out | apply below_alloc | apply pw_below_drewN | apply below_drew1) | exact HB.out)⟩
  · replace c4 := Bool.eq_false_iff.mpr c4
    subst c4
    have H1 : (some false) = some r := by rw [if_neg (show ¬ (false = true) by decide)] at H; exact H
    clear H
    have H := H1
    clear H1
    obtain rfl := Option.some.inj H
    go_enter Tryd.func8, Tryd.ntmps8
    go_wp2_with (first | ((with_reducible refine gate_callee (f := 13) rfl ?_); refine goesL_ (some 10) rfl rfl Tryd.func13 (by kernel_rfl) rfl #[] rfl (by (try simp only [List.map_toArray, List.map_cons, List.map_nil]); first | done | rfl | (simp only [List.length_drop, List.length_take]; rfl)) ?_; (with_reducible refine (interlocutorlaw2_known.calls k  false _ A3.out ?hT_).mono ?_); (case hT_ => first | exact HT_.out | exact tab_below HT_.out (by repeat (first | (with_reducible first | exact HB.out | apply below_alloc | apply pw_below_drewN | apply below_drew1) | exact HB.out))); rintro e w26 ⟨rfl, hb⟩; refine ⟨_, rfl, ?_⟩; have n0_ := Aside0.mk (below_step (by repeat (first | (with_reducible first | exact HB.out | apply below_alloc | apply pw_below_drewN | apply below_drew1) | exact HB.out)) hb); clear HB; have HB := n0_; clear n0_; (try clear hb); (try clear hb2); (try clear hk); (try clear hi)))
    go_ret
    exact ⟨by first | rfl | (simp [errW_none, errW_some] <;> rfl) | (simp [*, errW_none, errW_some] <;> rfl), by repeat (first | (with_reducible first | exact HB.out | apply below_alloc | apply pw_below_drewN | apply below_drew1) | exact HB.out)⟩

/-- THE ONE PURE STATEMENT of interlocutorlaw2_DecWhole: yours. -/
def interlocutorlaw2_DecWhole.Pure : Prop := ∀ (a0 : Int) (a1 : Int), (Lit.int .i64 a0).wf = true → (Lit.int .i64 a1).wf = true → ∃ k, interlocutorlaw2_DecWhole.f k a0 a1 = some true
theorem interlocutorlaw2_DecWhole.walk (P : interlocutorlaw2_DecWhole.Pure) (a0 : Int) (a1 : Int) (w : World) (w0 : (Lit.int .i64 a0).wf = true) (w1 : (Lit.int .i64 a1).wf = true) (hT_ : TabOK w) :
    Calls Tryd.prog 8 #[.int .i64 a0, .int .i64 a1] w fun e w' => e = .returned (.bool true) ∧ Below w.heap.size w w' := by
  obtain ⟨k, h⟩ := P a0 a1 w0 w1
  refine (interlocutorlaw2_DecWhole.calls k a0 a1 true w h hT_).mono ?_
  rintro e w' ⟨rfl, hd⟩
  exact ⟨rfl, hd⟩

end Go.Proofs.YtjbihflpjkaifaaDoor.G
