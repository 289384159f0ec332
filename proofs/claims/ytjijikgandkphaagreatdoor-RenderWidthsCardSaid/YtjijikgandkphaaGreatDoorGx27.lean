import Derived.Test.YtjijikgandkphaaGreatDoorGx0
import Derived.Test.YtjijikgandkphaaGreatDoorGx20
import Derived.Test.YtjijikgandkphaaGreatDoorGx21
import Derived.Test.YtjijikgandkphaaGreatDoorGx22
import Derived.Test.YtjijikgandkphaaGreatDoorGx26
namespace Go.Proofs.YtjijikgandkphaaGreatDoor.G
open Go.RowKit Go.Proofs.YtjijikgandkphaaGreatDoorW.PrintWords Go.Proofs.YtjijikgandkphaaGreatDoorW.PrintLast Go.Proofs.YtjijikgandkphaaGreatDoorW.PrintMore Go.Proofs.YtjijikgandkphaaGreatDoorW.VWords Go.Proofs.YtjijikgandkphaaGreatDoorW.Tab
attribute [local go_sem] max2_int min2_int max_two min_two max_three min_three max_four min_four
set_option linter.unusedVariables false
set_option linter.unusedSimpArgs false
def interlocutorlaw11_RenderWidths.l0 : Nat → Int → Int → Int → ByteArray → Int → Int → Option (Bool)
  | 0, _, _, _, _, _, _ => none
  | k + 1, x7, x8, x11, x12, x13, x14 => if x14 < (x12.size : Int) then (if 0 ≤ x14 then (if (bt x12 x14) < 48 then (some false) else (if (bt x12 x14) > 57 then (some false) else (interlocutorlaw11_RenderWidths.l0 k x7 x8 x11 x12 (wrap64 ((wrap64 (10 * x13)) + (((bt x12 x14) - 48) % 256))) (wrap64 (x14 + 1))))) else (none)) else (if x11 = 0 then (if x13 = x7 then (if (x12.size : Int) ≥ x8 then (if (x12.size : Int) ≤ (mx x8 1) then (some true) else (if 0 < (x12.size : Int) then (some ((bt x12 0) != 48)) else (none))) else (some false)) else (some false)) else (some false))
def interlocutorlaw11_RenderWidths.f (k : Nat) (a0 : Int) (a1 : Int) (a2 : Int) : Option (Bool) := (interlocutorlaw11_known.f k).bind fun t293 => (if t293 = true then ((interlocutorlaw11_within.f a0 1099511627776).bind fun t294 => ((interlocutorlaw11_within.f a1 10).bind fun t295 => ((interlocutorlaw11_within.f a2 4).bind fun t296 => ((interlocutorlaw11_part.f 0 t295).bind fun bt297 => ((render_Write.f k (⟨#[]⟩ : ByteArray) 0 t296 ([] : List (S89)) ([] : List (S110)) (([(⟨9, (([(⟨bt297.1, bt297.2.1, bt297.2.2.1, bt297.2.2.2.1, bt297.2.2.2.2⟩ : S55)] : List (S55)))⟩ : S37)] : List (S37))) 0 9 (([t294] : List Int))).bind fun bt312 => ((interlocutorref3_Text.f k bt312.1).bind fun t314 => (interlocutorlaw11_RenderWidths.l0 k t294 t295 bt312.2 t314 0 0))))))) else (some false))
theorem interlocutorlaw11_RenderWidths.mono_l : ∀ k, (∀ y0 y1 y2 y3 y4 y5, LeO (interlocutorlaw11_RenderWidths.l0 k y0 y1 y2 y3 y4 y5) (interlocutorlaw11_RenderWidths.l0 (k + 1) y0 y1 y2 y3 y4 y5))
  | 0 => fun _ _ _ _ _ _ r h => by simp [interlocutorlaw11_RenderWidths.l0] at h
  | k + 1 => by
    have ih0 := interlocutorlaw11_RenderWidths.mono_l k
    · intro y0 y1 y2 y3 y4 y5
      unfold interlocutorlaw11_RenderWidths.l0
      repeat' first
      | (with_reducible exact ih0 _ _ _ _ _ _)
      | (with_reducible exact interlocutorlaw11_known.mono _)
      | (with_reducible exact interlocutorref3_Text.mono _ _)
      | (with_reducible exact render_Write.mono _ _ _ _ _ _ _ _ _ _)
      | (with_reducible exact LeO.refl _)
      | (with_reducible exact LeO.none _)
      | (with_reducible refine LeO.ite ?_ ?_)
      | (with_reducible refine LeO.bind ?_ (fun _ => ?_))
      | exact ih0 _ _ _ _ _ _
      | exact interlocutorlaw11_known.mono _
      | exact interlocutorref3_Text.mono _ _
      | exact render_Write.mono _ _ _ _ _ _ _ _ _ _
      | exact LeO.none _
      | refine LeO.ite ?_ ?_
      | refine LeO.bind ?_ (fun _ => ?_)
set_option maxHeartbeats 8000000 in
set_option maxRecDepth 100000 in
theorem interlocutorlaw11_RenderWidths.calls (k : Nat) (a0 : Int) (a1 : Int) (a2 : Int) (r : Bool) (HRT0 : r = true) (w : World) (h : interlocutorlaw11_RenderWidths.f k a0 a1 a2 = some r) (hT_ : TabOK w) :
    Calls Tryz.prog 7 #[.int .i64 a0, .int .i64 a1, .int .i64 a2] w fun e w' => e = .returned (.bool r) ∧ Below w.heap.size w w' := by
  have HRT := Aside0.mk HRT0
  clear HRT0
  have HTB_ := Aside0.mk hT_
  clear hT_
  have hu37 := Tryz.underlying37
  have hu33 := Tryz.underlying33
  have hu27 := Tryz.underlying27
  have HB := Aside0.mk (Below.refl w.heap.size w)
  have H : ((interlocutorlaw11_known.f k).bind fun t293 => (if t293 = true then ((interlocutorlaw11_within.f a0 1099511627776).bind fun t294 => ((interlocutorlaw11_within.f a1 10).bind fun t295 => ((interlocutorlaw11_within.f a2 4).bind fun t296 => ((interlocutorlaw11_part.f 0 t295).bind fun bt297 => ((render_Write.f k (⟨#[]⟩ : ByteArray) 0 t296 ([] : List (S89)) ([] : List (S110)) (([(⟨9, (([(⟨bt297.1, bt297.2.1, bt297.2.2.1, bt297.2.2.2.1, bt297.2.2.2.2⟩ : S55)] : List (S55)))⟩ : S37)] : List (S37))) 0 9 (([t294] : List Int))).bind fun bt312 => ((interlocutorref3_Text.f k bt312.1).bind fun t314 => (interlocutorlaw11_RenderWidths.l0 k t294 t295 bt312.2 t314 0 0))))))) else (some false))) = some r := h
  clear h
  replace H := Option.bind_eq_some_iff.mp H
  obtain ⟨t293, A40, H⟩ := H
  replace H : (if t293 = true then ((interlocutorlaw11_within.f a0 1099511627776).bind fun t294 => ((interlocutorlaw11_within.f a1 10).bind fun t295 => ((interlocutorlaw11_within.f a2 4).bind fun t296 => ((interlocutorlaw11_part.f 0 t295).bind fun bt297 => ((render_Write.f k (⟨#[]⟩ : ByteArray) 0 t296 ([] : List (S89)) ([] : List (S110)) (([(⟨9, (([(⟨bt297.1, bt297.2.1, bt297.2.2.1, bt297.2.2.2.1, bt297.2.2.2.2⟩ : S55)] : List (S55)))⟩ : S37)] : List (S37))) 0 9 (([t294] : List Int))).bind fun bt312 => ((interlocutorref3_Text.f k bt312.1).bind fun t314 => (interlocutorlaw11_RenderWidths.l0 k t294 t295 bt312.2 t314 0 0))))))) else (some false)) = some r := H
  have A4 := Aside0.mk A40
  clear A40
  by_cases c5 : t293 = true
  rotate_left
  · replace c5 := Bool.eq_false_iff.mpr c5
    subst c5
    have H1 : (some false) = some r := by rw [if_neg (show ¬ (false = true) by decide)] at H; exact H
    clear H
    have H := H1
    clear H1
    exact absurd ((Option.some.inj H).trans HRT.out) (by decide)
  subst c5
  have H1 : ((interlocutorlaw11_within.f a0 1099511627776).bind fun t294 => ((interlocutorlaw11_within.f a1 10).bind fun t295 => ((interlocutorlaw11_within.f a2 4).bind fun t296 => ((interlocutorlaw11_part.f 0 t295).bind fun bt297 => ((render_Write.f k (⟨#[]⟩ : ByteArray) 0 t296 ([] : List (S89)) ([] : List (S110)) (([(⟨9, (([(⟨bt297.1, bt297.2.1, bt297.2.2.1, bt297.2.2.2.1, bt297.2.2.2.2⟩ : S55)] : List (S55)))⟩ : S37)] : List (S37))) 0 9 (([t294] : List Int))).bind fun bt312 => ((interlocutorref3_Text.f k bt312.1).bind fun t314 => (interlocutorlaw11_RenderWidths.l0 k t294 t295 bt312.2 t314 0 0))))))) = some r := by rw [if_pos rfl] at H; exact H
  clear H
  have H := H1
  clear H1
  replace H := Option.bind_eq_some_iff.mp H
  obtain ⟨t294, A60, H⟩ := H
  replace H : ((interlocutorlaw11_within.f a1 10).bind fun t295 => ((interlocutorlaw11_within.f a2 4).bind fun t296 => ((interlocutorlaw11_part.f 0 t295).bind fun bt297 => ((render_Write.f k (⟨#[]⟩ : ByteArray) 0 t296 ([] : List (S89)) ([] : List (S110)) (([(⟨9, (([(⟨bt297.1, bt297.2.1, bt297.2.2.1, bt297.2.2.2.1, bt297.2.2.2.2⟩ : S55)] : List (S55)))⟩ : S37)] : List (S37))) 0 9 (([t294] : List Int))).bind fun bt312 => ((interlocutorref3_Text.f k bt312.1).bind fun t314 => (interlocutorlaw11_RenderWidths.l0 k t294 t295 bt312.2 t314 0 0)))))) = some r := H
  have A6 := Aside0.mk A60
  clear A60
  replace H := Option.bind_eq_some_iff.mp H
  obtain ⟨t295, A70, H⟩ := H
  replace H : ((interlocutorlaw11_within.f a2 4).bind fun t296 => ((interlocutorlaw11_part.f 0 t295).bind fun bt297 => ((render_Write.f k (⟨#[]⟩ : ByteArray) 0 t296 ([] : List (S89)) ([] : List (S110)) (([(⟨9, (([(⟨bt297.1, bt297.2.1, bt297.2.2.1, bt297.2.2.2.1, bt297.2.2.2.2⟩ : S55)] : List (S55)))⟩ : S37)] : List (S37))) 0 9 (([t294] : List Int))).bind fun bt312 => ((interlocutorref3_Text.f k bt312.1).bind fun t314 => (interlocutorlaw11_RenderWidths.l0 k t294 t295 bt312.2 t314 0 0))))) = some r := H
  have A7 := Aside0.mk A70
  clear A70
  replace H := Option.bind_eq_some_iff.mp H
  obtain ⟨t296, A80, H⟩ := H
  replace H : ((interlocutorlaw11_part.f 0 t295).bind fun bt297 => ((render_Write.f k (⟨#[]⟩ : ByteArray) 0 t296 ([] : List (S89)) ([] : List (S110)) (([(⟨9, (([(⟨bt297.1, bt297.2.1, bt297.2.2.1, bt297.2.2.2.1, bt297.2.2.2.2⟩ : S55)] : List (S55)))⟩ : S37)] : List (S37))) 0 9 (([t294] : List Int))).bind fun bt312 => ((interlocutorref3_Text.f k bt312.1).bind fun t314 => (interlocutorlaw11_RenderWidths.l0 k t294 t295 bt312.2 t314 0 0)))) = some r := H
  have A8 := Aside0.mk A80
  clear A80
  replace H := Option.bind_eq_some_iff.mp H
  obtain ⟨⟨t297, t298, t299, t300, t301⟩, A90, H⟩ := H
  replace H : ((render_Write.f k (⟨#[]⟩ : ByteArray) 0 t296 ([] : List (S89)) ([] : List (S110)) (([(⟨9, (([(⟨t297, t298, t299, t300, t301⟩ : S55)] : List (S55)))⟩ : S37)] : List (S37))) 0 9 (([t294] : List Int))).bind fun bt312 => ((interlocutorref3_Text.f k bt312.1).bind fun t314 => (interlocutorlaw11_RenderWidths.l0 k t294 t295 bt312.2 t314 0 0))) = some r := H
  have A9 := Aside0.mk A90
  clear A90
  obtain ⟨y302, hy302⟩ : ∃ y_ : List (S55), y_ = (([(⟨t297, t298, t299, t300, t301⟩ : S55)] : List (S55))) := ⟨_, rfl⟩
  replace H : ((render_Write.f k (⟨#[]⟩ : ByteArray) 0 t296 ([] : List (S89)) ([] : List (S110)) (([(⟨9, y302⟩ : S37)] : List (S37))) 0 9 (([t294] : List Int))).bind fun bt312 => ((interlocutorref3_Text.f k bt312.1).bind fun t314 => (interlocutorlaw11_RenderWidths.l0 k t294 t295 bt312.2 t314 0 0))) = some r := by first | (rw [hy302]; with_reducible exact H) | (have H2_ := (Option.bind_some _ _).symm.trans H; rw [hy302]; with_reducible exact H2_) | (have H2_ := (Option.bind_some _ _).symm.trans H; with_reducible exact H2_) | with_reducible exact H | (rw [hy302]; exact H) | exact H
  have Ny302 := Aside0.mk hy302
  clear hy302
  obtain ⟨y305, hy305⟩ : ∃ y_ : List (S37), y_ = (([(⟨9, y302⟩ : S37)] : List (S37))) := ⟨_, rfl⟩
  replace H : ((render_Write.f k (⟨#[]⟩ : ByteArray) 0 t296 ([] : List (S89)) ([] : List (S110)) y305 0 9 (([t294] : List Int))).bind fun bt312 => ((interlocutorref3_Text.f k bt312.1).bind fun t314 => (interlocutorlaw11_RenderWidths.l0 k t294 t295 bt312.2 t314 0 0))) = some r := by first | (rw [hy305]; with_reducible exact H) | (have H2_ := (Option.bind_some _ _).symm.trans H; rw [hy305]; with_reducible exact H2_) | (have H2_ := (Option.bind_some _ _).symm.trans H; with_reducible exact H2_) | with_reducible exact H | (rw [hy305]; exact H) | exact H
  have Ny305 := Aside0.mk hy305
  clear hy305
  obtain ⟨y309, hy309⟩ : ∃ y_ : List Int, y_ = (([t294] : List Int)) := ⟨_, rfl⟩
  replace H : ((render_Write.f k (⟨#[]⟩ : ByteArray) 0 t296 ([] : List (S89)) ([] : List (S110)) y305 0 9 y309).bind fun bt312 => ((interlocutorref3_Text.f k bt312.1).bind fun t314 => (interlocutorlaw11_RenderWidths.l0 k t294 t295 bt312.2 t314 0 0))) = some r := by first | (rw [hy309]; with_reducible exact H) | (have H2_ := (Option.bind_some _ _).symm.trans H; rw [hy309]; with_reducible exact H2_) | (have H2_ := (Option.bind_some _ _).symm.trans H; with_reducible exact H2_) | with_reducible exact H | (rw [hy309]; exact H) | exact H
  have Ny309 := Aside0.mk hy309
  clear hy309
  replace H := Option.bind_eq_some_iff.mp H
  obtain ⟨⟨t312, t313⟩, A100, H⟩ := H
  replace H : ((interlocutorref3_Text.f k t312).bind fun t314 => (interlocutorlaw11_RenderWidths.l0 k t294 t295 t313 t314 0 0)) = some r := H
  have A10 := Aside0.mk A100
  clear A100
  replace H := Option.bind_eq_some_iff.mp H
  obtain ⟨t314, A110, H⟩ := H
  replace H : (interlocutorlaw11_RenderWidths.l0 k t294 t295 t313 t314 0 0) = some r := H
  have A11 := Aside0.mk A110
  clear A110
  have H' := Aside0.mk H
  clear H
  go_enter Tryz.func7, Tryz.ntmps7
  go_wp2_with (first | ((with_reducible refine gate_callee (f := 9) rfl ?_); refine goesL_ (some 15) rfl rfl Tryz.func9 (by kernel_rfl) rfl #[] rfl (by (try simp only [List.map_toArray, List.map_cons, List.map_nil]); first | done | rfl | (simp only [List.length_drop, List.length_take]; rfl)) ?_; (with_reducible refine (interlocutorlaw11_known.calls k  true _ A4.out ?hT_).mono ?_); (case hT_ => first | exact HTB_.out | exact tab_below HTB_.out (by repeat (first | (with_reducible first | exact HB.out | apply below_alloc | apply pw_below_drewN | apply below_drew1 | refine below_set ?_ (Aside0.out ‹_›)) | exact HB.out))); rintro e w12 ⟨rfl, hb⟩; refine ⟨_, rfl, ?_⟩; have n0_ := Aside0.mk (below_step (by exact wU HB.out) hb); clear HB; have HB := n0_; clear n0_; (try clear hb); (try clear hb2); (try clear hk); (try clear hi)) | ((with_reducible refine gate_callee (f := 19) rfl ?_); refine goesL_ (some 18) rfl rfl Tryz.func19 (by kernel_rfl) rfl #[.int .i64 a0, .int .i64 1099511627776] rfl (by (try simp only [List.map_toArray, List.map_cons, List.map_nil]); first | done | rfl | (simp only [List.length_drop, List.length_take]; rfl)) ?_; (with_reducible refine (interlocutorlaw11_within.calls a0 1099511627776 t294 _ A6.out).mono ?_); rintro e w' ⟨rfl, ⟨nd, rfl⟩⟩; refine ⟨_, rfl, ?_⟩; (try (rw [drewN_self w12]; generalize hq_ : World.drewN w12 _ = w12; have n0_ : Aside0 (Below w.heap.size w w12) := ⟨by rw [← hq_]; exact (by exact wU HB.out)⟩; clear HB hq_; have HB := n0_; clear n0_))) | ((with_reducible refine gate_callee (f := 19) rfl ?_); refine goesL_ (some 20) rfl rfl Tryz.func19 (by kernel_rfl) rfl #[.int .i64 a1, .int .i64 10] rfl (by (try simp only [List.map_toArray, List.map_cons, List.map_nil]); first | done | rfl | (simp only [List.length_drop, List.length_take]; rfl)) ?_; (with_reducible refine (interlocutorlaw11_within.calls a1 10 t295 _ A7.out).mono ?_); rintro e w' ⟨rfl, ⟨nd, rfl⟩⟩; refine ⟨_, rfl, ?_⟩; (try (rw [drewN_self w12]; generalize hq_ : World.drewN w12 _ = w12; have n0_ : Aside0 (Below w.heap.size w w12) := ⟨by rw [← hq_]; exact (by exact wU HB.out)⟩; clear HB hq_; have HB := n0_; clear n0_))) | ((with_reducible refine gate_callee (f := 19) rfl ?_); refine goesL_ (some 22) rfl rfl Tryz.func19 (by kernel_rfl) rfl #[.int .i64 a2, .int .i64 4] rfl (by (try simp only [List.map_toArray, List.map_cons, List.map_nil]); first | done | rfl | (simp only [List.length_drop, List.length_take]; rfl)) ?_; (with_reducible refine (interlocutorlaw11_within.calls a2 4 t296 _ A8.out).mono ?_); rintro e w' ⟨rfl, ⟨nd, rfl⟩⟩; refine ⟨_, rfl, ?_⟩; (try (rw [drewN_self w12]; generalize hq_ : World.drewN w12 _ = w12; have n0_ : Aside0 (Below w.heap.size w w12) := ⟨by rw [← hq_]; exact (by exact wU HB.out)⟩; clear HB hq_; have HB := n0_; clear n0_))) | ((with_reducible refine gate_callee (f := 22) rfl ?_); refine goesL_ (some 24) rfl rfl Tryz.func22 (by kernel_rfl) rfl #[.int .i64 0, .int .i64 t295] rfl (by (try simp only [List.map_toArray, List.map_cons, List.map_nil]); first | done | rfl | (simp only [List.length_drop, List.length_take]; rfl)) ?_; (with_reducible refine (interlocutorlaw11_part.calls 0 t295 t297 t298 t299 t300 t301 _ A9.out).mono ?_); rintro e w13 ⟨rfl, hb⟩; refine ⟨_, rfl, ?_⟩; have n0_ := Aside0.mk (below_step (by exact wU HB.out) hb); clear HB; have HB := n0_; clear n0_; (try clear hb); (try clear hb2); (try clear hk); (try clear hi)) | ((with_reducible refine gate_dst (N := 25) rfl ?_); (try (refine gate_guard (by rfl) ?_; dsimp only)); refine Kd.R_lit k55 _ 55 ?hg (N := 25) ?hd (xs := ([(⟨t297, t298, t299, t300, t301⟩ : S55)] : List (S55))) (inner := [.int .i64 t297, .string t298, .int .i64 t299, .int .i64 t300, .int .i64 t301]) (ok := fun _ => True) (okp := fun _ => True) ?hr ?hp (fun _ hk => hk) trivial (Below.refl _ _) (Nat.le_refl _) (by simp) ?_; (case hd => rfl); (case hg => rfl); (case hr => first | (go_simp; done) | (go_simp; rfl)); (case hp => exact (Reps.c5 (show Kd.M k55 _ _ _ (⟨t297, t298, t299, t300, t301⟩ : S55) [.int .i64 t297, .string t298, .int .i64 t299, .int .i64 t300, .int .i64 t301] from (k55_mkM _ _ _ (⟨t297, t298, t299, t300, t301⟩ : S55) )) (Reps.none _ _))); intro v303 w14 ho15 hb hg_ hnew_; clear hg_ hnew_; (first | rw [← Ny302.out] at ho15 | (simp only [Int.reduceToNat] at ho15; rw [← Ny302.out] at ho15)); have n0_ := Aside0.mk (Kd.R_lower ho15 (below_size (by exact wU HB.out))); have n1_ := Aside0.mk (below_step (by exact wU HB.out) hb); clear HB; have HO304 := n0_; have HB := n1_; clear n0_ n1_; clear hb ho15; obtain ⟨Ao16, co16, eo16⟩ := Kd.R_slice HO304.out; subst eo16) | ((with_reducible refine gate_dst (N := 27) rfl ?_); (try (refine gate_guard (by rfl) ?_; dsimp only)); refine Kd.N_lit k37 _ 37 ?hg (N' := 27) ?hd (xs := ([(⟨9, y302⟩ : S37)] : List (S37))) (inner := [.int .i64 9, .slice Ao16 y302.length co16]) (ok := (fun _ => True)) (okp := (fun _ => True)) ?hr ?hp (fun _ hk => hk) ((show ∀ k_, w14.heap.size ≤ k_ → (fun _ => True) k_ from fun k_ hk => trivial) _ (Nat.le_refl _)) (Below.refl _ _) (Nat.le_refl _) (by simp) ?_; (case hd => rfl); (case hg => rfl); (case hr => first | (go_simp; done) | (go_simp; rfl)); (case hp => exact (Reps.c2 (show Kd.FK k37 _ _ (⟨9, y302⟩ : S37) [.int .i64 9, .slice Ao16 y302.length co16] from (k37_mkF _ _ (⟨9, y302⟩ : S37) (Kd.R_reads' (Kd.R_mono (ok' := (fun _ => True)) (HO304.out) (fun k_ hk => trivial))).2.1 (Kd.R_F (Kd.R_mono (ok' := (fun _ => True)) (HO304.out) (fun k_ hk => trivial))))) (Reps.none _ _))); intro v306 w17 ho18 hb hg_ hnew_; clear hg_ hnew_; (first | rw [← Ny305.out] at ho18 | (simp only [Int.reduceToNat] at ho18; rw [← Ny305.out] at ho18)); have n0_ := Aside0.mk (Kd.N_lower ho18 (below_size (by exact wU HB.out))); have n1_ := Aside0.mk (below_step (by exact wU HB.out) hb); clear HB; clear HO304; have HO307 := n0_; have HB := n1_; clear n0_ n1_; clear hb ho18; obtain ⟨Ao19, co19, eo19⟩ := Kd.N_slice HO307.out; subst eo19) | ((with_reducible refine gate_dst (N := 9) rfl ?_); (try (refine gate_guard (by rfl) ?_; dsimp only)); refine box_event ?hg (N := 9) ?hd (cs := #[.string (⟨#[]⟩ : ByteArray), .int .i64 0, .int .i64 0, .slice none 0 0, .slice none 0 0, .slice none 0 0]) (t := 33) ?hr ?_; (case hd => rfl); (case hg => rfl); (case hr => first | (go_simp; done) | (go_simp; rfl)); intro gb308 hg w20 hbox hb; have n0_ := Aside0.mk (Kd.N_below (Kd.N_elderB (by exact nU HO307.out) gb308 (Nat.le_of_eq hg.symm)) hb); have n1_ := Aside0.mk (below_step (by exact wU HB.out) hb); have n2_ := Aside0.mk (hbox); have n3_ := Aside0.mk ((by rw [hg]; exact (below_size (by exact wU HB.out)) : w.heap.size ≤ gb308)); have n4_ := Aside0.mk ((by rw [hg]; exact (below_size (by exact wU HB.out)) : w.heap.size ≤ gb308)); clear HO307; clear HB; have HO307 := n0_; have HB := n1_; have BK308 := n2_; have GW308 := n3_; have GE308 := n4_; clear n0_ n1_ n2_ n3_ n4_; clear hb hbox hg; have hcz21_0 : w20.cell? ⟨gb308, 0, none⟩ = some (.string (⟨#[]⟩ : ByteArray)) := (blk_cell BK308.out 0).trans rfl; have hcz21_1 : w20.cell? ⟨gb308, 1, none⟩ = some (.int .i64 0) := (blk_cell BK308.out 1).trans rfl; have hcz21_2 : w20.cell? ⟨gb308, 2, none⟩ = some (.int .i64 0) := (blk_cell BK308.out 2).trans rfl; have hcz21_3 : w20.cell? ⟨gb308, 3, none⟩ = some (.slice none 0 0) := (blk_cell BK308.out 3).trans rfl; have hcz21_4 : w20.cell? ⟨gb308, 4, none⟩ = some (.slice none 0 0) := (blk_cell BK308.out 4).trans rfl; have hcz21_5 : w20.cell? ⟨gb308, 5, none⟩ = some (.slice none 0 0) := (blk_cell BK308.out 5).trans rfl; have hfz21_0 := blk_frozen BK308.out 0; have hfz21_1 := blk_frozen BK308.out 1; have hfz21_2 := blk_frozen BK308.out 2; have hfz21_3 := blk_frozen BK308.out 3; have hfz21_4 := blk_frozen BK308.out 4; have hfz21_5 := blk_frozen BK308.out 5) | ((with_reducible refine gate_dst (N := 32) rfl ?_); (try (refine gate_guard (by rfl) ?_; dsimp only)); refine Kd.R_lit (Kd.int .i64) _ 3 ?hg (N := 32) ?hd (xs := ([t294] : List Int)) (inner := [.int .i64 t294]) (ok := fun _ => True) (okp := fun _ => True) ?hr ?hp (fun _ hk => hk) trivial (Below.refl _ _) (Nat.le_refl _) (by simp) ?_; (case hd => rfl); (case hg => rfl); (case hr => first | (go_simp; done) | (go_simp; rfl)); (case hp => exact (Reps.one (show Kd.M (Kd.int .i64) _ _ _ t294 [.int .i64 t294] from rfl) (Reps.none _ _))); intro v310 w22 ho23 hb hg_ hnew_; clear hg_ hnew_; (first | rw [← Ny309.out] at ho23 | (simp only [Int.reduceToNat] at ho23; rw [← Ny309.out] at ho23)); have n0_ := Aside0.mk (Kd.N_elder' (by exact nU ((Kd.N_mono (Kd.N_far (p := ⟨gb308, 5, none⟩) (Kd.N_far (p := ⟨gb308, 4, none⟩) (Kd.N_far (p := ⟨gb308, 3, none⟩) (Kd.N_far (p := ⟨gb308, 2, none⟩) (Kd.N_far (p := ⟨gb308, 1, none⟩) (Kd.N_far (p := ⟨gb308, 0, none⟩) (Kd.N_mono HO307.out (fun k_ hk => (⟨hk, hk.2⟩ : _ ∧ k_ ≠ gb308))) (fun _ hk => hk.2) (.string (⟨#[]⟩ : ByteArray))) (fun _ hk => hk.2) (.int .i64 0)) (fun _ hk => hk.2) (.int .i64 t296)) (fun _ hk => hk.2) (.slice none 0 0)) (fun _ hk => hk.2) (.slice none 0 0)) (fun _ hk => hk.2) (.slice Ao19 y305.length co19)) (fun _ h_ => h_.1)))) (Kd.R_base ho23) hb); have n1_ := Aside0.mk (Kd.R_lower ho23 (below_size (by exact wS HB.out GE308.out))); have n2_ := Aside0.mk (blk_below (g := gb308) (o := .cells #[.string (⟨#[]⟩ : ByteArray), .int .i64 0, .int .i64 t296, .slice none 0 0, .slice none 0 0, .slice Ao19 y305.length co19] 33 (0, 0)) (by (with_reducible repeat (first | refine blk_drewN ?_ _ | refine blk_drew ?_ | refine blk_alloc ?_ _)); refine blk_put (cs := #[.string (⟨#[]⟩ : ByteArray), .int .i64 0, .int .i64 t296, .slice none 0 0, .slice none 0 0, .slice none 0 0]) ?_ 5 _ rfl; (with_reducible repeat (first | refine blk_drewN ?_ _ | refine blk_drew ?_ | refine blk_alloc ?_ _)); refine blk_put (cs := #[.string (⟨#[]⟩ : ByteArray), .int .i64 0, .int .i64 t296, .slice none 0 0, .slice none 0 0, .slice none 0 0]) ?_ 4 _ rfl; (with_reducible repeat (first | refine blk_drewN ?_ _ | refine blk_drew ?_ | refine blk_alloc ?_ _)); refine blk_put (cs := #[.string (⟨#[]⟩ : ByteArray), .int .i64 0, .int .i64 t296, .slice none 0 0, .slice none 0 0, .slice none 0 0]) ?_ 3 _ rfl; (with_reducible repeat (first | refine blk_drewN ?_ _ | refine blk_drew ?_ | refine blk_alloc ?_ _)); refine blk_put (cs := #[.string (⟨#[]⟩ : ByteArray), .int .i64 0, .int .i64 0, .slice none 0 0, .slice none 0 0, .slice none 0 0]) ?_ 2 _ rfl; (with_reducible repeat (first | refine blk_drewN ?_ _ | refine blk_drew ?_ | refine blk_alloc ?_ _)); refine blk_put (cs := #[.string (⟨#[]⟩ : ByteArray), .int .i64 0, .int .i64 0, .slice none 0 0, .slice none 0 0, .slice none 0 0]) ?_ 1 _ rfl; (with_reducible repeat (first | refine blk_drewN ?_ _ | refine blk_drew ?_ | refine blk_alloc ?_ _)); refine blk_put (cs := #[.string (⟨#[]⟩ : ByteArray), .int .i64 0, .int .i64 0, .slice none 0 0, .slice none 0 0, .slice none 0 0]) ?_ 0 _ rfl; (with_reducible repeat (first | refine blk_drewN ?_ _ | refine blk_drew ?_ | refine blk_alloc ?_ _)); exact BK308.out) hb); have n3_ := Aside0.mk (below_step (by exact wS HB.out GE308.out) hb); clear HO307; clear BK308; clear HB; have HO307 := n0_; have HO311 := n1_; have BK308 := n2_; have HB := n3_; clear n0_ n1_ n2_ n3_; clear hb ho23; obtain ⟨Ao24, co24, eo24⟩ := Kd.R_slice HO311.out; subst eo24) | ((with_reducible refine gate_callee (f := 14) rfl ?_); refine goesL_ (some 34) rfl rfl Tryz.func14 (by kernel_rfl) rfl #[.agg #[.string (⟨#[]⟩ : ByteArray), .int .i64 0, .int .i64 t296, .slice none 0 0, .slice none 0 0, .slice Ao19 y305.length co19], .int .i64 0, .agg #[.int .i64 9, .slice Ao24 y309.length co24]] rfl (by (try simp only [List.map_toArray, List.map_cons, List.map_nil]); first | done | rfl | (simp only [List.length_drop, List.length_take]; rfl)) ?_; (refine (render_Write.calls k (⟨#[]⟩ : ByteArray) 0 t296 _ _ ([] : List (S89)) _ _ ([] : List (S110)) _ _ y305 0 9 _ _ y309 t312 t313 _ ?side1 ?side2 ?side3 ?side4 ?side5 ?side6 ?side7 ?side8 A10.out ?hT_).mono ?_); (case hT_ => first | exact HTB_.out | exact tab_below HTB_.out (by repeat (first | (with_reducible first | exact HB.out | apply below_alloc | apply pw_below_drewN | apply below_drew1 | refine below_set ?_ (Aside0.out ‹_›)) | exact HB.out))); (case side1 => exact Kd.C_nil _ _); (case side2 => exact Nat.le_refl _); (case side3 => exact Kd.C_nil _ _); (case side4 => exact Nat.le_refl _); (case side5 => repeat (first | exact (Kd.N_reads' HO307.out).2.2 | (with_reducible refine Kd.C_alloc ?_ _) | (with_reducible refine Kd.C_drewN ?_ _) | (with_reducible refine Kd.C_drew ?_))); (case side6 => exact (Kd.N_reads' HO307.out).2.1); (case side7 => repeat (first | exact (Kd.R_reads' HO311.out).2.2 | (with_reducible refine Kd.C_alloc ?_ _) | (with_reducible refine Kd.C_drewN ?_ _) | (with_reducible refine Kd.C_drew ?_))); (case side8 => exact (Kd.R_reads' HO311.out).2.1); rintro e w25 ⟨rfl, hb⟩; refine ⟨_, rfl, ?_⟩; have n0_ := Aside0.mk (Kd.N_below (by exact nU HO307.out) hb); have n1_ := Aside0.mk (Kd.R_below (by exact rU HO311.out) hb); have n2_ := Aside0.mk (blk_below (g := gb308) (o := .cells #[.string (⟨#[]⟩ : ByteArray), .int .i64 0, .int .i64 t296, .slice none 0 0, .slice none 0 0, .slice Ao19 y305.length co19] 33 (0, 0)) (by (with_reducible repeat (first | refine blk_drewN ?_ _ | refine blk_drew ?_ | refine blk_alloc ?_ _)); exact BK308.out) hb); have n3_ := Aside0.mk (below_step (by exact wS HB.out GE308.out) hb); clear HO307; clear HO311; clear BK308; clear HB; have HO307 := n0_; have HO311 := n1_; have BK308 := n2_; have HB := n3_; clear n0_ n1_ n2_ n3_; (try clear hb); (try clear hb2); (try clear hk); (try clear hi)) | ((with_reducible refine gate_callee (f := 20) rfl ?_); refine goesL_ (some 38) rfl rfl Tryz.func20 (by kernel_rfl) rfl #[.string t312] rfl (by (try simp only [List.map_toArray, List.map_cons, List.map_nil]); first | done | rfl | (simp only [List.length_drop, List.length_take]; rfl)) ?_; (with_reducible refine (interlocutorref3_Text.calls k t312 t314 _ A11.out).mono ?_); rintro e w26 ⟨rfl, hb⟩; refine ⟨_, rfl, ?_⟩; have n0_ := Aside0.mk (Kd.N_below (by exact nU HO307.out) hb); have n1_ := Aside0.mk (Kd.R_below (by exact rU HO311.out) hb); have n2_ := Aside0.mk (blk_below (g := gb308) (o := .cells #[.string (⟨#[]⟩ : ByteArray), .int .i64 0, .int .i64 t296, .slice none 0 0, .slice none 0 0, .slice Ao19 y305.length co19] 33 (0, 0)) (by (with_reducible repeat (first | refine blk_drewN ?_ _ | refine blk_drew ?_ | refine blk_alloc ?_ _)); exact BK308.out) hb); have n3_ := Aside0.mk (below_step (by exact wS HB.out GE308.out) hb); clear HO307; clear HO311; clear BK308; clear HB; have HO307 := n0_; have HO311 := n1_; have BK308 := n2_; have HB := n3_; clear n0_ n1_ n2_ n3_; (try clear hb); (try clear hb2); (try clear hk); (try clear hi)))
  go_loopg [13, 14] k (fun kq v13 v14 w' => ∃ (x13_1 : Int) (x14_1 : Int), v13 = .int .i64 x13_1 ∧ v14 = .int .i64 x14_1 ∧ Aside0 (interlocutorlaw11_RenderWidths.l0 kq t294 t295 t313 t314 x13_1 x14_1 = some r) ∧ Aside0 (kq ≤ k) ∧ Aside0 (Kd.N k37 37 w' w.heap.size (fun k_ => k_ ≠ gb308) (.slice Ao19 y305.length co19) y305) ∧ Aside0 (w'.heap[gb308]? = some (.cells #[.string (⟨#[]⟩ : ByteArray), .int .i64 0, .int .i64 t296, (.slice none 0 0), (.slice none 0 0), (.slice Ao19 y305.length co19)] 33 (0, 0))) ∧ Aside0 (Below w.heap.size w w'))
  case atStart => exact ⟨(0), (0), (by first | rfl | (simp; done) | (simp [*]; done)), (by first | rfl | (simp; done) | (simp [*]; done)), H', ⟨Nat.le_refl _⟩, ⟨by exact nU (Kd.N_mono HO307.out (fun _ hk => hk.1.2))⟩, ⟨by (with_reducible repeat (first | refine blk_drewN ?_ _ | refine blk_drew ?_ | refine blk_alloc ?_ _)); exact BK308.out⟩, ⟨by exact wS HB.out GE308.out⟩⟩
  case round =>
   clear H'
   try clear c1
   try clear c2
   try clear p2
   try clear c5
   try clear c7
   try clear c9
   try clear c14
   try clear c19
   try clear c20
   try clear c22
   try clear hcz21_0
   try clear hcz21_1
   try clear hcz21_2
   try clear hcz21_3
   try clear hcz21_4
   try clear hcz21_5
   try clear hfz21_0
   try clear hfz21_1
   try clear hfz21_2
   try clear hfz21_3
   try clear hfz21_4
   try clear hfz21_5
   obtain ⟨x13_1, x14_1, rfl, rfl, HA, HK1, HO_309005, BK308, HB⟩ := hrel
   cases gk with
   | zero => exact absurd HA.out (by simp [interlocutorlaw11_RenderWidths.l0])
   | succ k1 =>
    have H := HA.out
    clear HA
    simp only [interlocutorlaw11_RenderWidths.l0] at H
    by_cases c27 : x14_1 < (t314.size : Int)
    · rw [if_pos c27] at H
      have c27b0 : decide (x14_1 < (t314.size : Int)) = true := decide_eq_true c27
      clear c27
      by_cases c28 : 0 ≤ x14_1
      rotate_left
      · rw [if_neg c28] at H
        exact absurd H (by simp)
      rw [if_pos c28] at H
      have c28b0 : decide (0 ≤ x14_1) = true := decide_eq_true c28
      clear c28
      by_cases c30 : (bt t314 x14_1) < 48
      · rw [if_pos c30] at H
        have c30b0 : decide ((bt t314 x14_1) < 48) = true := decide_eq_true c30
        clear c30
        exact absurd ((Option.some.inj H).trans HRT.out) (by decide)
      rw [if_neg c30] at H
      have c30b0 : decide ((bt t314 x14_1) < 48) = false := decide_eq_false c30
      clear c30
      by_cases c32 : (bt t314 x14_1) > 57
      · rw [if_pos c32] at H
        have c32b0 : decide (57 < (bt t314 x14_1)) = true := decide_eq_true c32
        clear c32
        exact absurd ((Option.some.inj H).trans HRT.out) (by decide)
      rw [if_neg c32] at H
      have c32b0 : decide (57 < (bt t314 x14_1)) = false := decide_eq_false c32
      clear c32
      have H' := Aside0.mk H
      clear H
      have p29 : 0 ≤ (x14_1 : Int) := of_decide_eq_true (by first | (with_reducible assumption) | assumption)
      have q29 : x14_1 < (t314.size : Int) := of_decide_eq_true (by first | (with_reducible assumption) | assumption)
      have hx29 := bt_at t314 x14_1
      replace p29 := eq_true p29
      replace q29 := eq_true q29
      have p31 : 0 ≤ (x14_1 : Int) := of_decide_eq_true (by first | (with_reducible assumption) | assumption)
      have q31 : x14_1 < (t314.size : Int) := of_decide_eq_true (by first | (with_reducible assumption) | assumption)
      have hx31 := bt_at t314 x14_1
      replace p31 := eq_true p31
      replace q31 := eq_true q31
      have p33 : 0 ≤ (x14_1 : Int) := of_decide_eq_true (by first | (with_reducible assumption) | assumption)
      have q33 : x14_1 < (t314.size : Int) := of_decide_eq_true (by first | (with_reducible assumption) | assumption)
      have hx33 := bt_at t314 x14_1
      replace p33 := eq_true p33
      replace q33 := eq_true q33
      go_wp2
      go_roundg k1
      case measure => have := HK1.out; omega
      case rel => exact ⟨(wrap64 ((wrap64 (10 * x13_1)) + (((bt t314 x14_1) - 48) % 256))), (wrap64 (x14_1 + 1)), (by first | rfl | (simp; done) | (simp [*]; done)), (by first | rfl | (simp; done) | (simp [*]; done)), H', ⟨by have := HK1.out; omega⟩, ⟨by exact nU HO_309005.out⟩, ⟨by (with_reducible repeat (first | refine blk_drewN ?_ _ | refine blk_drew ?_ | refine blk_alloc ?_ _)); exact BK308.out⟩, ⟨by exact wS HB.out GE308.out⟩⟩
    rw [if_neg c27] at H
    have c27b0 : decide (x14_1 < (t314.size : Int)) = false := decide_eq_false c27
    clear c27
    by_cases c34 : t313 = 0
    rotate_left
    · rw [if_neg c34] at H
      have c34b0 : (t313 == 0) = false := beq_eq_false_iff_ne.mpr c34
      have c34b1 : (t313 != 0) = true := bne_iff_ne.mpr c34
      exact absurd ((Option.some.inj H).trans HRT.out) (by decide)
    rw [if_pos c34] at H
    have c34b0 : (t313 == 0) = true := beq_iff_eq.mpr c34
    have c34b1 : (t313 != 0) = false := bne_eq_false_iff_eq.mpr c34
    clear c34
    by_cases c35 : x13_1 = t294
    rotate_left
    · rw [if_neg c35] at H
      have c35b0 : (x13_1 == t294) = false := beq_eq_false_iff_ne.mpr c35
      have c35b1 : (x13_1 != t294) = true := bne_iff_ne.mpr c35
      exact absurd ((Option.some.inj H).trans HRT.out) (by decide)
    rw [if_pos c35] at H
    have c35b0 : (x13_1 == t294) = true := beq_iff_eq.mpr c35
    have c35b1 : (x13_1 != t294) = false := bne_eq_false_iff_eq.mpr c35
    clear c35
    by_cases c36 : (t314.size : Int) ≥ t295
    rotate_left
    · rw [if_neg c36] at H
      have c36b0 : decide (t295 ≤ (t314.size : Int)) = false := decide_eq_false c36
      clear c36
      exact absurd ((Option.some.inj H).trans HRT.out) (by decide)
    rw [if_pos c36] at H
    have c36b0 : decide (t295 ≤ (t314.size : Int)) = true := decide_eq_true c36
    clear c36
    obtain ⟨ji37, hji37⟩ : ∃ j_ : Int, (mx t295 1) = j_ := ⟨_, rfl⟩
    replace H : (if (t314.size : Int) ≤ (ji37) then (some true) else (if 0 < (t314.size : Int) then (some ((bt t314 0) != 48)) else (none))) = some r := by first | (rw [hji37] at H; exact H) | (simp only [hji37] at H ⊢; exact H)
    have hji37_ : (if t295 < 1 then 1 else t295) = ji37 := hji37
    by_cases c38 : (t314.size : Int) ≤ (ji37)
    · rw [if_pos c38] at H
      have c38b0 : decide ((t314.size : Int) ≤ (ji37)) = true := decide_eq_true c38
      clear c38
      obtain rfl := Option.some.inj H
      go_wp2
      go_ret
      exact ⟨by first | rfl | (simp [errW_none, errW_some] <;> rfl) | (simp only [← hji37]; first | rfl | (simp [errW_none, errW_some] <;> rfl)) | (simp [*, errW_none, errW_some] <;> rfl), by exact wS HB.out GE308.out⟩
    rw [if_neg c38] at H
    have c38b0 : decide ((t314.size : Int) ≤ (ji37)) = false := decide_eq_false c38
    clear c38
    by_cases c39 : 0 < (t314.size : Int)
    rotate_left
    · rw [if_neg c39] at H
      exact absurd H (by simp)
    rw [if_pos c39] at H
    have c39b0 : decide (0 < (t314.size : Int)) = true := decide_eq_true c39
    have c39b1 : decide (0 < t314.size) = true := decide_eq_true (by omega)
    clear c39
    obtain rfl := Option.some.inj H
    have p40 : 0 ≤ (0 : Int) := (by omega)
    have q40 : 0 < t314.size := (by have : (0 : Int) < (t314.size : Int) := of_decide_eq_true (by first | (with_reducible assumption) | assumption); omega)
    have hx40 : ∀ h : 0 < t314.size, ((t314[0]'h).toNat : Int) = bt t314 0 := bt_at t314 0
    clear p40
    have qi40 : (0 < (t314.size : Int)) = True := eq_true (of_decide_eq_true (by first | (with_reducible assumption) | assumption))
    replace q40 := eq_true q40
    go_wp2
    go_ret
    exact ⟨by first | rfl | (simp [errW_none, errW_some] <;> rfl) | (simp only [← hji37]; first | rfl | (simp [errW_none, errW_some] <;> rfl)) | (simp [*, errW_none, errW_some] <;> rfl), by exact wS HB.out GE308.out⟩
def interlocutorlaw11_RenderWidths.Pure : Prop := ∀ (a0 : Int) (a1 : Int) (a2 : Int), (Lit.int .i64 a0).wf = true → (Lit.int .i64 a1).wf = true → (Lit.int .i64 a2).wf = true → ∃ k, interlocutorlaw11_RenderWidths.f k a0 a1 a2 = some true
theorem interlocutorlaw11_RenderWidths.walk (P : interlocutorlaw11_RenderWidths.Pure) (a0 : Int) (a1 : Int) (a2 : Int) (w : World) (w0 : (Lit.int .i64 a0).wf = true) (w1 : (Lit.int .i64 a1).wf = true) (w2 : (Lit.int .i64 a2).wf = true) (hT_ : TabOK w) :
    Calls Tryz.prog 7 #[.int .i64 a0, .int .i64 a1, .int .i64 a2] w fun e w' => e = .returned (.bool true) ∧ Below w.heap.size w w' := by
  obtain ⟨k, h⟩ := P a0 a1 a2 w0 w1 w2
  refine (interlocutorlaw11_RenderWidths.calls k a0 a1 a2 true rfl w h hT_).mono ?_
  rintro e w' ⟨rfl, hd⟩
  exact ⟨rfl, hd⟩
end Go.Proofs.YtjijikgandkphaaGreatDoor.G
