-- printed by wip/tool/gprint.py, a program of this work, out of the translation; Lean checks it
import Derived.Test.YtlgndfplikhflaaDoorGx0
import Derived.Test.YtlgndfplikhflaaDoorGx1
namespace Go.Proofs.YtlgndfplikhflaaDoor.G
open Go.RowKit Go.Proofs.YtlgndfplikhflaaDoorW.PrintWords Go.Proofs.YtlgndfplikhflaaDoorW.PrintLast Go.Proofs.YtlgndfplikhflaaDoorW.PrintMore Go.Proofs.YtlgndfplikhflaaDoorW.VWords Go.Proofs.YtlgndfplikhflaaDoorW.Tab
attribute [local go_sem] max2_int min2_int max_two min_two max_three min_three max_four min_four   -- for this text's walks alone
set_option linter.unusedVariables false
set_option linter.unusedSimpArgs false

/-! ### rank_value_against: function 24 -/
abbrev N24 : Bool := false
abbrev Y24 : Bool := true
theorem pq24 : (∀ (t : Array Value) d (n : Nat) (v : Value), Act.put ⟨t, d⟩ (some n) v = ⟨t.setIfInBounds n v, d⟩) ∧ (∀ (l : List Value) (n : Nat) (v : Value), l.toArray.setIfInBounds n v = (l.set n v).toArray) ∧ (∀ (x v : Value) (l : List Value), (x :: l).set 0 v = v :: l) ∧ (∀ (x v : Value) (l : List Value) (n : Nat), (x :: l).set (n + 1) v = x :: l.set n v) ∧ (∀ z : Int, IntKind.i64.wrap z = wrap64 z) ∧ (∀ z : Int, IntKind.i32.wrap z = wrap32 z) := ⟨fun _ _ _ _ => rfl, fun _ _ _ => List.setIfInBounds_toArray .., fun _ _ _ => List.set_cons_zero .., fun _ _ _ _ => List.set_cons_succ .., i64_w, i32_w⟩
def rank_value_against.f (k : Nat) (a0_0 : Int) (l0_1 : List Int) (a1_0 : Int) (l1_1 : List Int) : Option (Int) := (cmp_Compare_int.f a0_0 a1_0).bind fun t109 => ((cmp_Compare_int.f (l0_1.length : Int) (l1_1.length : Int)).bind fun t110 => ((slices_Compare_int_int.f k l0_1 l1_1).bind fun t111 => ((cmp_Or_int.f k (([t109, t110, t111] : List Int))).bind fun t115 => (some t115))))
theorem rank_value_against.mono : ∀ a0 a1 a2 a3 k, LeO (rank_value_against.f k a0 a1 a2 a3) (rank_value_against.f (k + 1) a0 a1 a2 a3) := by
  intro a0 a1 a2 a3 k
  unfold rank_value_against.f
  repeat' first
      | (with_reducible exact cmp_Or_int.mono _ _)
      | (with_reducible exact slices_Compare_int_int.mono _ _ _)
      | (with_reducible exact LeO.refl _)
      | (with_reducible exact LeO.none _)
      | (with_reducible refine LeO.ite ?_ ?_)
      | (with_reducible refine LeO.bind ?_ (fun _ => ?_))
      | exact cmp_Or_int.mono _ _
      | exact slices_Compare_int_int.mono _ _ _
      | exact LeO.none _
      | refine LeO.ite ?_ ?_
      | refine LeO.bind ?_ (fun _ => ?_)
def rank_value_against.T1 : Bool × List (List Nat × List Nat) := (true, [([], []), ([0], [0]), ([], []), ([2], [2]), ([1, 3], [1, 3]), ([], []), ([5], [5]), ([6], [6]), ([], []), ([8], [8]), ([9], [9]), ([7, 10, 4], [7, 10]), ([], []), ([12], [12]), ([], []), ([14], [14]), ([13, 15, 11], [13, 15]), ([4, 11, 16], [4, 11, 16]), ([17, 16], [17]), ([18, 18, 0, 1, 2, 3, 4, 5, 6, 7, 8, 9, 10, 11, 12, 13, 14, 15, 16, 17, 18], [18])])
def rank_value_against.B1 : List Nat := [0, 1, 0, 4, 15, 0, 32, 96, 0, 256, 768, 2047, 0, 4096, 0, 16384, 65535, 131071, 262143, 524287]
theorem rank_value_against.tab1 : rtab .any (opsOf Tryd.f24 1) = rank_value_against.T1 := by kernel_rfl
theorem rank_value_against.bits1 : waitsOk rank_value_against.T1.2 rank_value_against.B1 = true := by kernel_rfl
set_option maxHeartbeats 8000000 in
set_option maxRecDepth 100000 in
theorem rank_value_against.calls (k : Nat) (a0_0 : Int) (A0_1 : Option Addr) (c0_1 : Nat) (l0_1 : List Int) (a1_0 : Int) (A1_1 : Option Addr) (c1_1 : Nat) (l1_1 : List Int) (r : Int) (w : World) (hr0_1 : Kd.C (Kd.int .i64) w A0_1 l0_1.length l0_1) (hc0_1 : l0_1.length ≤ c0_1) (hr1_1 : Kd.C (Kd.int .i64) w A1_1 l1_1.length l1_1) (hc1_1 : l1_1.length ≤ c1_1) (h : rank_value_against.f k a0_0 l0_1 a1_0 l1_1 = some r) :
    Calls Tryd.prog 24 #[.agg #[.int .i64 a0_0, .slice A0_1 l0_1.length c0_1], .agg #[.int .i64 a1_0, .slice A1_1 l1_1.length c1_1]] w fun e w' => e = .returned (.int .i64 r) ∧ Below w.heap.size w w' := by
  have hu44 := Tryd.underlying44
  have HR0_1 := Aside0.mk hr0_1
  have HC0_1 := Aside0.mk hc0_1
  clear hr0_1 hc0_1
  have HR1_1 := Aside0.mk hr1_1
  have HC1_1 := Aside0.mk hc1_1
  clear hr1_1 hc1_1
  have HB := Aside0.mk (Below.refl w.heap.size w)
  have H : ((cmp_Compare_int.f a0_0 a1_0).bind fun t109 => ((cmp_Compare_int.f (l0_1.length : Int) (l1_1.length : Int)).bind fun t110 => ((slices_Compare_int_int.f k l0_1 l1_1).bind fun t111 => ((cmp_Or_int.f k (([t109, t110, t111] : List Int))).bind fun t115 => (some t115))))) = some r := h
  clear h
  replace H := Option.bind_eq_some_iff.mp H
  obtain ⟨t109, A30, H⟩ := H
  replace H : ((cmp_Compare_int.f (l0_1.length : Int) (l1_1.length : Int)).bind fun t110 => ((slices_Compare_int_int.f k l0_1 l1_1).bind fun t111 => ((cmp_Or_int.f k (([t109, t110, t111] : List Int))).bind fun t115 => (some t115)))) = some r := H
  have A3 := Aside0.mk A30
  clear A30
  replace H := Option.bind_eq_some_iff.mp H
  obtain ⟨t110, A40, H⟩ := H
  replace H : ((slices_Compare_int_int.f k l0_1 l1_1).bind fun t111 => ((cmp_Or_int.f k (([t109, t110, t111] : List Int))).bind fun t115 => (some t115))) = some r := H
  have A4 := Aside0.mk A40
  clear A40
  replace H := Option.bind_eq_some_iff.mp H
  obtain ⟨t111, A50, H⟩ := H
  replace H : ((cmp_Or_int.f k (([t109, t110, t111] : List Int))).bind fun t115 => (some t115)) = some r := H
  have A5 := Aside0.mk A50
  clear A50
  obtain ⟨y112, hy112⟩ : ∃ y_ : List Int, y_ = (([t109, t110, t111] : List Int)) := ⟨_, rfl⟩
  replace H : ((cmp_Or_int.f k y112).bind fun t115 => (some t115)) = some r := by first | (rw [hy112]; with_reducible exact H) | (have H2_ := (Option.bind_some _ _).symm.trans H; rw [hy112]; with_reducible exact H2_) | (have H2_ := (Option.bind_some _ _).symm.trans H; with_reducible exact H2_) | with_reducible exact H | (rw [hy112]; exact H) | exact H
  have Ny112 := Aside0.mk hy112
  clear hy112
  replace H := Option.bind_eq_some_iff.mp H
  obtain ⟨t115, A60, H⟩ := H
  replace H : (some t115) = some r := H
  have A6 := Aside0.mk A60
  clear A60
  obtain rfl := Option.some.inj H
  go_enter Tryd.func24, Tryd.ntmps24
  try go_wp2_with (first | ((with_reducible refine gate_dst (N := 2) rfl ?_); refine box_event ?hg (N := 2) ?hd (cs := #[.int .i64 a0_0, .slice A0_1 l0_1.length c0_1]) (t := 44) ?hr ?_; (case hd => rfl); (case hg => rfl); (case hr => first | (go_simp; done) | (go_simp; rfl)); intro gb107 hg w7 hbox hb; have n0_ := Aside0.mk (below_step (by repeat (first | (with_reducible first | exact HB.out | apply below_alloc | apply pw_below_drewN | apply below_drew1) | exact HB.out)) hb); have n1_ := Aside0.mk (hbox); have n2_ := Aside0.mk ((by rw [hg]; exact (below_size (by repeat (first | (with_reducible first | exact HB.out | apply below_alloc | apply pw_below_drewN | apply below_drew1) | exact HB.out))) : w.heap.size ≤ gb107)); have n3_ := Aside0.mk ((by rw [hg]; exact (below_size (by repeat (first | (with_reducible first | exact HB.out | apply below_alloc | apply pw_below_drewN | apply below_drew1) | exact HB.out))) : w.heap.size ≤ gb107)); clear HB; have HB := n0_; have BK107 := n1_; have GW107 := n2_; have GE107 := n3_; clear n0_ n1_ n2_ n3_; clear hb hbox hg) | ((with_reducible refine gate_dst (N := 3) rfl ?_); refine box_event ?hg (N := 3) ?hd (cs := #[.int .i64 a1_0, .slice A1_1 l1_1.length c1_1]) (t := 44) ?hr ?_; (case hd => rfl); (case hg => rfl); (case hr => first | (go_simp; done) | (go_simp; rfl)); intro gb108 hg w8 hbox hb; have n0_ := Aside0.mk (blk_below (g := gb107) (o := .cells #[.int .i64 a0_0, .slice A0_1 l0_1.length c0_1] 44 (0, 0)) (by (with_reducible repeat (first | refine blk_drewN ?_ _ | refine blk_drew ?_ | refine blk_alloc ?_ _)); exact BK107.out) hb); have n1_ := Aside0.mk (below_step (by repeat (first | (with_reducible first | exact HB.out | apply below_alloc | apply pw_below_drewN | apply below_drew1 | refine below_set ?_ GE107.out) | exact HB.out)) hb); have n2_ := Aside0.mk (hbox); have n3_ := Aside0.mk ((by rw [hg]; exact (below_size (by repeat (first | (with_reducible first | exact HB.out | apply below_alloc | apply pw_below_drewN | apply below_drew1 | refine below_set ?_ GE107.out) | exact HB.out))) : w.heap.size ≤ gb108)); have n4_ := Aside0.mk ((by rw [hg]; exact (below_size (by repeat (first | (with_reducible first | exact HB.out | apply below_alloc | apply pw_below_drewN | apply below_drew1 | refine below_set ?_ GE107.out) | exact HB.out))) : w.heap.size ≤ gb108)); have n5_ := Aside0.mk ((by rw [hg]; exact Nat.ne_of_lt (blk_lt (g := gb107) (o := .cells #[.int .i64 a0_0, .slice A0_1 l0_1.length c0_1] 44 (0, 0)) (by (with_reducible repeat (first | refine blk_drewN ?_ _ | refine blk_drew ?_ | refine blk_alloc ?_ _)); exact BK107.out)) : gb107 ≠ gb108)); have n6_ := Aside0.mk ((by rw [hg]; exact Nat.ne_of_gt (blk_lt (g := gb107) (o := .cells #[.int .i64 a0_0, .slice A0_1 l0_1.length c0_1] 44 (0, 0)) (by (with_reducible repeat (first | refine blk_drewN ?_ _ | refine blk_drew ?_ | refine blk_alloc ?_ _)); exact BK107.out)) : gb108 ≠ gb107)); clear BK107; clear HB; have BK107 := n0_; have HB := n1_; have BK108 := n2_; have GW108 := n3_; have GE108 := n4_; have NB107_108 := n5_; have NB108_107 := n6_; clear n0_ n1_ n2_ n3_ n4_ n5_ n6_; clear hb hbox hg))
  have n0_ := Aside0.mk (blk_drew BK107.out)
  have n1_ := Aside0.mk (blk_drew BK108.out)
  have n2_ := Aside0.mk (below_drew1 HB.out)
  clear BK107
  clear BK108
  clear HB
  have BK107 := n0_
  have BK108 := n1_
  have HB := n2_
  clear n0_ n1_ n2_
  refine start_ (n := 20) (S := fun w' => w'.cell? ⟨gb107, 0, none⟩ = some (.int .i64 a0_0) ∧ w'.cell? ⟨gb107, 1, none⟩ = some (.slice A0_1 l0_1.length c0_1) ∧ w'.cell? ⟨gb108, 0, none⟩ = some (.int .i64 a1_0) ∧ w'.cell? ⟨gb108, 1, none⟩ = some (.slice A1_1 l1_1.length c1_1)) (ds := []) #[N24,N24,N24,N24,N24,N24,N24,N24,N24,N24,N24,N24,N24,N24,N24,N24,N24,N24,N24,N24] (by kernel_rfl) rfl rfl ⟨(blk_cell BK107.out 0).trans rfl, (blk_cell BK107.out 1).trans rfl, (blk_cell BK108.out 0).trans rfl, (blk_cell BK108.out 1).trans rfl⟩ (fun hHeld => ?_); refine with_tabW rank_value_against.tab1 rank_value_against.bits1 (fun HT_ HW_ => ?_)
  generalize w8.drew = w9 at BK107 BK108 HB hHeld ⊢
  refine pure_ (i := 0) (N := some 5) (v := ?_) (a' := ?_) #[Y24,N24,N24,N24,N24,N24,N24,N24,N24,N24,N24,N24,N24,N24,N24,N24,N24,N24,N24,N24] rfl rfl (any_of HT_.out (by kernel_rfl)) (fun _ _ _ h => h) (Or.inl ⟨by rfl, ?_⟩) ?_ ?_; rotate_left; (intro w'; go_simp; with_reducible rfl); rotate_left; (simp only [pq24]; rfl)
  refine pure_ (i := 2) (N := some 7) (v := ?_) (a' := ?_) #[Y24,N24,Y24,N24,N24,N24,N24,N24,N24,N24,N24,N24,N24,N24,N24,N24,N24,N24,N24,N24] rfl rfl (any_of HT_.out (by kernel_rfl)) (fun _ _ _ h => h) (Or.inl ⟨by rfl, ?_⟩) ?_ ?_; rotate_left; (intro w'; go_simp; with_reducible rfl); rotate_left; (simp only [pq24]; rfl)
  refine pure_ (i := 5) (N := some 10) (v := ?_) (a' := ?_) #[Y24,N24,Y24,N24,N24,Y24,N24,N24,N24,N24,N24,N24,N24,N24,N24,N24,N24,N24,N24,N24] rfl rfl (any_of HT_.out (by kernel_rfl)) (fun _ _ _ h => h) (Or.inl ⟨by rfl, ?_⟩) ?_ ?_; rotate_left; (intro w'; go_simp; with_reducible rfl); rotate_left; (simp only [pq24]; rfl)
  refine pure_ (i := 8) (N := some 13) (v := ?_) (a' := ?_) #[Y24,N24,Y24,N24,N24,Y24,N24,N24,Y24,N24,N24,N24,N24,N24,N24,N24,N24,N24,N24,N24] rfl rfl (any_of HT_.out (by kernel_rfl)) (fun _ _ _ h => h) (Or.inl ⟨by rfl, ?_⟩) ?_ ?_; rotate_left; (intro w'; go_simp; with_reducible rfl); rotate_left; (simp only [pq24]; rfl)
  refine pure_ (i := 12) (N := some 17) (v := ?_) (a' := ?_) #[Y24,N24,Y24,N24,N24,Y24,N24,N24,Y24,N24,N24,N24,Y24,N24,N24,N24,N24,N24,N24,N24] rfl rfl (any_of HT_.out (by kernel_rfl)) (fun _ _ _ h => h) (Or.inl ⟨by rfl, ?_⟩) ?_ ?_; rotate_left; (intro w'; go_simp; with_reducible rfl); rotate_left; (simp only [pq24]; rfl)
  refine pure_ (i := 14) (N := some 19) (v := ?_) (a' := ?_) #[Y24,N24,Y24,N24,N24,Y24,N24,N24,Y24,N24,N24,N24,Y24,N24,Y24,N24,N24,N24,N24,N24] rfl rfl (any_of HT_.out (by kernel_rfl)) (fun _ _ _ h => h) (Or.inl ⟨by rfl, ?_⟩) ?_ ?_; rotate_left; (intro w'; go_simp; with_reducible rfl); rotate_left; (simp only [pq24]; rfl)
  refine take_ (i := 1) (N := some 6) (v := ?_) (a' := ?_) #[Y24,Y24,Y24,N24,N24,Y24,N24,N24,Y24,N24,N24,N24,Y24,N24,Y24,N24,N24,N24,N24,N24] rfl rfl (take_ofW HT_.out HW_.out (by kernel_rfl)) (fun _ _ _ h => h) (Or.inl ⟨by rfl, ?_⟩) hHeld ?_ ?_
  rotate_left
  · rintro w' ⟨s0, s1, s2, s3⟩
    go_simp
    with_reducible rfl
  rotate_left
  · simp only [pq24]
    rfl
  refine take_ (i := 3) (N := some 8) (v := ?_) (a' := ?_) #[Y24,Y24,Y24,Y24,N24,Y24,N24,N24,Y24,N24,N24,N24,Y24,N24,Y24,N24,N24,N24,N24,N24] rfl rfl (take_ofW HT_.out HW_.out (by kernel_rfl)) (fun _ _ _ h => h) (Or.inl ⟨by rfl, ?_⟩) hHeld ?_ ?_
  rotate_left
  · rintro w' ⟨s0, s1, s2, s3⟩
    go_simp
    with_reducible rfl
  rotate_left
  · simp only [pq24]
    rfl
  refine take_ (i := 6) (N := some 11) (v := ?_) (a' := ?_) #[Y24,Y24,Y24,Y24,N24,Y24,Y24,N24,Y24,N24,N24,N24,Y24,N24,Y24,N24,N24,N24,N24,N24] rfl rfl (take_ofW HT_.out HW_.out (by kernel_rfl)) (fun _ _ _ h => h) (Or.inl ⟨by rfl, ?_⟩) hHeld ?_ ?_
  rotate_left
  · rintro w' ⟨s0, s1, s2, s3⟩
    go_simp
    with_reducible rfl
  rotate_left
  · simp only [pq24]
    rfl
  refine pure_ (i := 7) (N := some 12) (v := ?_) (a' := ?_) #[Y24,Y24,Y24,Y24,N24,Y24,Y24,Y24,Y24,N24,N24,N24,Y24,N24,Y24,N24,N24,N24,N24,N24] rfl rfl (any_of HT_.out (by kernel_rfl)) (fun _ _ _ h => h) (Or.inl ⟨by rfl, ?_⟩) ?_ ?_; rotate_left; (intro w'; go_simp; with_reducible rfl); rotate_left; (simp only [pq24]; rfl)
  refine take_ (i := 9) (N := some 14) (v := ?_) (a' := ?_) #[Y24,Y24,Y24,Y24,N24,Y24,Y24,Y24,Y24,Y24,N24,N24,Y24,N24,Y24,N24,N24,N24,N24,N24] rfl rfl (take_ofW HT_.out HW_.out (by kernel_rfl)) (fun _ _ _ h => h) (Or.inl ⟨by rfl, ?_⟩) hHeld ?_ ?_
  rotate_left
  · rintro w' ⟨s0, s1, s2, s3⟩
    go_simp
    with_reducible rfl
  rotate_left
  · simp only [pq24]
    rfl
  refine pure_ (i := 10) (N := some 15) (v := ?_) (a' := ?_) #[Y24,Y24,Y24,Y24,N24,Y24,Y24,Y24,Y24,Y24,Y24,N24,Y24,N24,Y24,N24,N24,N24,N24,N24] rfl rfl (any_of HT_.out (by kernel_rfl)) (fun _ _ _ h => h) (Or.inl ⟨by rfl, ?_⟩) ?_ ?_; rotate_left; (intro w'; go_simp; with_reducible rfl); rotate_left; (simp only [pq24]; rfl)
  refine take_ (i := 13) (N := some 18) (v := ?_) (a' := ?_) #[Y24,Y24,Y24,Y24,N24,Y24,Y24,Y24,Y24,Y24,Y24,N24,Y24,Y24,Y24,N24,N24,N24,N24,N24] rfl rfl (take_ofW HT_.out HW_.out (by kernel_rfl)) (fun _ _ _ h => h) (Or.inl ⟨by rfl, ?_⟩) hHeld ?_ ?_
  rotate_left
  · rintro w' ⟨s0, s1, s2, s3⟩
    go_simp
    with_reducible rfl
  rotate_left
  · simp only [pq24]
    rfl
  refine take_ (i := 15) (N := some 20) (v := ?_) (a' := ?_) #[Y24,Y24,Y24,Y24,N24,Y24,Y24,Y24,Y24,Y24,Y24,N24,Y24,Y24,Y24,Y24,N24,N24,N24,N24] rfl rfl (take_ofW HT_.out HW_.out (by kernel_rfl)) (fun _ _ _ h => h) (Or.inl ⟨by rfl, ?_⟩) hHeld ?_ ?_
  rotate_left
  · rintro w' ⟨s0, s1, s2, s3⟩
    go_simp
    with_reducible rfl
  rotate_left
  · simp only [pq24]
    rfl
  refine one_ (i := 4) (N := some 9) #[Y24,Y24,Y24,Y24,Y24,Y24,Y24,Y24,Y24,Y24,Y24,N24,Y24,Y24,Y24,Y24,N24,N24,N24,N24] rfl rfl (one_of HT_.out (by kernel_rfl)) (by decide) (fun K hK => ?_)
  refine goes_ Tryd.func37 (by kernel_rfl) rfl #[.int .i64 a0_0, .int .i64 a1_0] (by rfl) rfl rfl (by (try simp only [List.map_toArray, List.map_cons, List.map_nil]); first | done | rfl | (simp only [List.length_drop, List.length_take]; rfl)) ?_
  with_reducible refine (cmp_Compare_int.calls a0_0 a1_0 t109 _ A3.out).mono ?_
  rintro e w' ⟨rfl, ⟨nd, rfl⟩⟩
  refine ⟨_, rfl, ?_⟩
  refine hK.out _ _ ⟨(blk_cell BK107.out 0).trans rfl, (blk_cell BK107.out 1).trans rfl, (blk_cell BK108.out 0).trans rfl, (blk_cell BK108.out 1).trans rfl⟩ (fun hHeld => ?_)
  clear hK K
  refine norm_ (a' := ?_) ?_ ?_
  rotate_left
  · show Act.put _ (some 9) _ = _
    simp only [pq24]
    rfl
  refine one_ (i := 11) (N := some 16) #[Y24,Y24,Y24,Y24,Y24,Y24,Y24,Y24,Y24,Y24,Y24,Y24,Y24,Y24,Y24,Y24,N24,N24,N24,N24] rfl rfl (one_of HT_.out (by kernel_rfl)) (by decide) (fun K hK => ?_)
  refine goes_ Tryd.func37 (by kernel_rfl) rfl #[.int .i64 (l0_1.length : Int), .int .i64 (l1_1.length : Int)] (by rfl) rfl rfl (by (try simp only [List.map_toArray, List.map_cons, List.map_nil]); first | done | rfl | (simp only [List.length_drop, List.length_take]; rfl)) ?_
  with_reducible refine (cmp_Compare_int.calls (l0_1.length : Int) (l1_1.length : Int) t110 _ A4.out).mono ?_
  rintro e w' ⟨rfl, ⟨nd, rfl⟩⟩
  refine ⟨_, rfl, ?_⟩
  refine hK.out _ _ ⟨(blk_cell BK107.out 0).trans rfl, (blk_cell BK107.out 1).trans rfl, (blk_cell BK108.out 0).trans rfl, (blk_cell BK108.out 1).trans rfl⟩ (fun hHeld => ?_)
  clear hK K
  refine norm_ (a' := ?_) ?_ ?_
  rotate_left
  · show Act.put _ (some 16) _ = _
    simp only [pq24]
    rfl
  refine one_ (i := 16) (N := some 21) #[Y24,Y24,Y24,Y24,Y24,Y24,Y24,Y24,Y24,Y24,Y24,Y24,Y24,Y24,Y24,Y24,Y24,N24,N24,N24] rfl rfl (one_of HT_.out (by kernel_rfl)) (by decide) (fun K hK => ?_)
  refine goes_ Tryd.func38 (by kernel_rfl) rfl #[.slice A0_1 l0_1.length c0_1, .slice A1_1 l1_1.length c1_1] (by rfl) rfl rfl (by (try simp only [List.map_toArray, List.map_cons, List.map_nil]); first | done | rfl | (simp only [List.length_drop, List.length_take]; rfl)) ?_
  with_reducible refine (slices_Compare_int_int.calls k _ _ l0_1 _ _ l1_1 t111 _ ?side1 ?side2 ?side3 ?side4 A5.out).mono ?_
  (case side1 => repeat (first | exact (Kd.C_below HR0_1.out (by repeat (first | (with_reducible first | exact HB.out | apply below_alloc | apply pw_below_drewN | apply below_drew1 | refine below_set ?_ GE107.out | refine below_set ?_ GE108.out) | exact HB.out))) | (with_reducible refine Kd.C_alloc ?_ _) | (with_reducible refine Kd.C_drewN ?_ _) | (with_reducible refine Kd.C_drew ?_)))
  (case side2 => exact HC0_1.out)
  (case side3 => repeat (first | exact (Kd.C_below HR1_1.out (by repeat (first | (with_reducible first | exact HB.out | apply below_alloc | apply pw_below_drewN | apply below_drew1 | refine below_set ?_ GE107.out | refine below_set ?_ GE108.out) | exact HB.out))) | (with_reducible refine Kd.C_alloc ?_ _) | (with_reducible refine Kd.C_drewN ?_ _) | (with_reducible refine Kd.C_drew ?_)))
  (case side4 => exact HC1_1.out)
  rintro e w' ⟨rfl, ⟨nd, rfl⟩⟩
  refine ⟨_, rfl, ?_⟩
  refine hK.out _ _ ⟨(blk_cell BK107.out 0).trans rfl, (blk_cell BK107.out 1).trans rfl, (blk_cell BK108.out 0).trans rfl, (blk_cell BK108.out 1).trans rfl⟩ (fun hHeld => ?_)
  clear hK K
  refine norm_ (a' := ?_) ?_ ?_
  rotate_left
  · show Act.put _ (some 21) _ = _
    simp only [pq24]
    rfl
  refine one_ (i := 17) (N := some 22) #[Y24,Y24,Y24,Y24,Y24,Y24,Y24,Y24,Y24,Y24,Y24,Y24,Y24,Y24,Y24,Y24,Y24,Y24,N24,N24] rfl rfl (one_of HT_.out (by kernel_rfl)) (by decide) (fun K hK => ?_)
  refine Kd.R_lit_step (Kd.int .i64) _ 3 ?hg (N := 22) ?hd (xs := ([t109, t110, t111] : List Int)) (inner := [.int .i64 t109, .int .i64 t110, .int .i64 t111]) (ok := fun _ => True) (okp := fun _ => True) ?hr ?hp (fun _ hk => hk) trivial (Below.refl _ _) (Nat.le_refl _) (by simp) ?_; (case hd => rfl); (case hg => rfl); (case hr => first | (go_simp; done) | (go_simp; rfl)); (case hp => exact (Reps.one (show Kd.M (Kd.int .i64) _ _ _ t109 [.int .i64 t109] from rfl) (Reps.one (show Kd.M (Kd.int .i64) _ _ _ t110 [.int .i64 t110] from rfl) (Reps.one (show Kd.M (Kd.int .i64) _ _ _ t111 [.int .i64 t111] from rfl) (Reps.none _ _)))))
  intro v113 w10 ho11 hb hg_ hnew_
  clear hg_ hnew_
  (first | rw [← Ny112.out] at ho11 | (simp only [Int.reduceToNat] at ho11; rw [← Ny112.out] at ho11))
  have n0_ := Aside0.mk (Kd.R_lower ho11 (below_size (by repeat (first | (with_reducible first | exact HB.out | apply below_alloc | apply pw_below_drewN | apply below_drew1 | refine below_set ?_ GE107.out | refine below_set ?_ GE108.out) | exact HB.out))))
  have n1_ := Aside0.mk (blk_below (g := gb107) (o := .cells #[.int .i64 a0_0, .slice A0_1 l0_1.length c0_1] 44 (0, 0)) (by (with_reducible repeat (first | refine blk_drewN ?_ _ | refine blk_drew ?_ | refine blk_alloc ?_ _)); exact BK107.out) hb)
  have n2_ := Aside0.mk (blk_below (g := gb108) (o := .cells #[.int .i64 a1_0, .slice A1_1 l1_1.length c1_1] 44 (0, 0)) (by (with_reducible repeat (first | refine blk_drewN ?_ _ | refine blk_drew ?_ | refine blk_alloc ?_ _)); exact BK108.out) hb)
  have n3_ := Aside0.mk (below_step (by repeat (first | (with_reducible first | exact HB.out | apply below_alloc | apply pw_below_drewN | apply below_drew1 | refine below_set ?_ GE107.out | refine below_set ?_ GE108.out) | exact HB.out)) hb)
  clear BK107
  clear BK108
  clear HB
  have HO114 := n0_
  have BK107 := n1_
  have BK108 := n2_
  have HB := n3_
  clear n0_ n1_ n2_ n3_
  clear hb ho11
  obtain ⟨Ao12, co12, eo12⟩ := Kd.R_slice HO114.out
  (first | subst eo12 | (injection eo12 with f1_ f2_ f3_; have f4_ := f1_.symm; have f5_ := f3_.symm; clear f1_ f2_ f3_; subst f4_; subst f5_))
  refine hK.out _ _ ⟨(blk_cell BK107.out 0).trans rfl, (blk_cell BK107.out 1).trans rfl, (blk_cell BK108.out 0).trans rfl, (blk_cell BK108.out 1).trans rfl⟩ (fun hHeld => ?_)
  clear hK K
  refine norm_ (a' := ?_) ?_ ?_
  rotate_left
  · show Act.put _ (some 22) _ = _
    simp only [pq24]
    rfl
  refine one_ (i := 18) (N := some 23) #[Y24,Y24,Y24,Y24,Y24,Y24,Y24,Y24,Y24,Y24,Y24,Y24,Y24,Y24,Y24,Y24,Y24,Y24,Y24,N24] rfl rfl (one_of HT_.out (by kernel_rfl)) (by decide) (fun K hK => ?_)
  refine goes_ Tryd.func36 (by kernel_rfl) rfl #[.slice Ao12 y112.length co12] (by rfl) rfl rfl (by (try simp only [List.map_toArray, List.map_cons, List.map_nil]); first | done | rfl | (simp only [List.length_drop, List.length_take]; rfl)) ?_
  with_reducible refine (cmp_Or_int.calls k _ _ y112 t115 _ ?side1 ?side2 A6.out).mono ?_
  (case side1 => repeat (first | exact (Kd.R_reads' HO114.out).2.2 | (with_reducible refine Kd.C_alloc ?_ _) | (with_reducible refine Kd.C_drewN ?_ _) | (with_reducible refine Kd.C_drew ?_)))
  (case side2 => exact (Kd.R_reads' HO114.out).2.1)
  rintro e w' ⟨rfl, ⟨nd, rfl⟩⟩
  refine ⟨_, rfl, ?_⟩
  refine hK.out _ _ ⟨(blk_cell BK107.out 0).trans rfl, (blk_cell BK107.out 1).trans rfl, (blk_cell BK108.out 0).trans rfl, (blk_cell BK108.out 1).trans rfl⟩ (fun hHeld => ?_)
  clear hK K
  refine norm_ (a' := ?_) ?_ ?_
  rotate_left
  · show Act.put _ (some 23) _ = _
    simp only [pq24]
    rfl
  refine pure_ (i := 19) (N := some 4) (v := ?_) (a' := ?_) #[Y24,Y24,Y24,Y24,Y24,Y24,Y24,Y24,Y24,Y24,Y24,Y24,Y24,Y24,Y24,Y24,Y24,Y24,Y24,Y24] rfl rfl (any_of HT_.out (by kernel_rfl)) (fun _ _ _ h => h) (Or.inl ⟨by rfl, ?_⟩) ?_ ?_; rotate_left; (intro w'; go_simp; with_reducible rfl); rotate_left; (simp only [pq24]; rfl)
  refine done_ (done_of HT_.out (by kernel_rfl)) ?_
  try go_wp2
  go_ret
  exact ⟨by first | rfl | (simp [errW_none, errW_some] <;> rfl) | (simp [*, errW_none, errW_some] <;> rfl), by repeat (first | (with_reducible first | exact HB.out | apply below_alloc | apply pw_below_drewN | apply below_drew1 | refine below_set ?_ GE107.out | refine below_set ?_ GE108.out) | exact HB.out)⟩
/-! ### rank_Cmp: function 14 -/
def rank_Cmp.f (k : Nat) (a0_0 : Int) (l0_1 : List Int) (a1_0 : Int) (l1_1 : List Int) : Option (Int) := (rank_value_against.f k a0_0 l0_1 a1_0 l1_1).bind fun t118 => (some t118)
theorem rank_Cmp.mono : ∀ a0 a1 a2 a3 k, LeO (rank_Cmp.f k a0 a1 a2 a3) (rank_Cmp.f (k + 1) a0 a1 a2 a3) := by
  intro a0 a1 a2 a3 k
  unfold rank_Cmp.f
  repeat' first
      | (with_reducible exact rank_value_against.mono _ _ _ _ _)
      | (with_reducible exact LeO.refl _)
      | (with_reducible exact LeO.none _)
      | (with_reducible refine LeO.ite ?_ ?_)
      | (with_reducible refine LeO.bind ?_ (fun _ => ?_))
      | exact rank_value_against.mono _ _ _ _ _
      | exact LeO.none _
      | refine LeO.ite ?_ ?_
      | refine LeO.bind ?_ (fun _ => ?_)
set_option maxHeartbeats 8000000 in
set_option maxRecDepth 100000 in
theorem rank_Cmp.calls (k : Nat) (a0_0 : Int) (A0_1 : Option Addr) (c0_1 : Nat) (l0_1 : List Int) (a1_0 : Int) (A1_1 : Option Addr) (c1_1 : Nat) (l1_1 : List Int) (r : Int) (w : World) (hr0_1 : Kd.C (Kd.int .i64) w A0_1 l0_1.length l0_1) (hc0_1 : l0_1.length ≤ c0_1) (hr1_1 : Kd.C (Kd.int .i64) w A1_1 l1_1.length l1_1) (hc1_1 : l1_1.length ≤ c1_1) (h : rank_Cmp.f k a0_0 l0_1 a1_0 l1_1 = some r) :
    Calls Tryd.prog 14 #[.agg #[.int .i64 a0_0, .slice A0_1 l0_1.length c0_1], .agg #[.int .i64 a1_0, .slice A1_1 l1_1.length c1_1]] w fun e w' => e = .returned (.int .i64 r) ∧ Below w.heap.size w w' := by
  have hu24 := Tryd.underlying24
  have HR0_1 := Aside0.mk hr0_1
  have HC0_1 := Aside0.mk hc0_1
  clear hr0_1 hc0_1
  have HR1_1 := Aside0.mk hr1_1
  have HC1_1 := Aside0.mk hc1_1
  clear hr1_1 hc1_1
  have HB := Aside0.mk (Below.refl w.heap.size w)
  have H : ((rank_value_against.f k a0_0 l0_1 a1_0 l1_1).bind fun t118 => (some t118)) = some r := h
  clear h
  replace H := Option.bind_eq_some_iff.mp H
  obtain ⟨t118, A30, H⟩ := H
  replace H : (some t118) = some r := H
  have A3 := Aside0.mk A30
  clear A30
  obtain rfl := Option.some.inj H
  go_enter Tryd.func14, Tryd.ntmps14
  go_wp2_with (first | ((with_reducible refine gate_dst (N := 2) rfl ?_); refine box_event ?hg (N := 2) ?hd (cs := #[.int .i64 a0_0, .slice A0_1 l0_1.length c0_1]) (t := 24) ?hr ?_; (case hd => rfl); (case hg => rfl); (case hr => first | (go_simp; done) | (go_simp; rfl)); intro gb116 hg w4 hbox hb; have n0_ := Aside0.mk (below_step (by repeat (first | (with_reducible first | exact HB.out | apply below_alloc | apply pw_below_drewN | apply below_drew1) | exact HB.out)) hb); have n1_ := Aside0.mk (hbox); have n2_ := Aside0.mk ((by rw [hg]; exact (below_size (by repeat (first | (with_reducible first | exact HB.out | apply below_alloc | apply pw_below_drewN | apply below_drew1) | exact HB.out))) : w.heap.size ≤ gb116)); have n3_ := Aside0.mk ((by rw [hg]; exact (below_size (by repeat (first | (with_reducible first | exact HB.out | apply below_alloc | apply pw_below_drewN | apply below_drew1) | exact HB.out))) : w.heap.size ≤ gb116)); clear HB; have HB := n0_; have BK116 := n1_; have GW116 := n2_; have GE116 := n3_; clear n0_ n1_ n2_ n3_; clear hb hbox hg) | ((with_reducible refine gate_dst (N := 3) rfl ?_); refine box_event ?hg (N := 3) ?hd (cs := #[.int .i64 a1_0, .slice A1_1 l1_1.length c1_1]) (t := 24) ?hr ?_; (case hd => rfl); (case hg => rfl); (case hr => first | (go_simp; done) | (go_simp; rfl)); intro gb117 hg w5 hbox hb; have n0_ := Aside0.mk (blk_below (g := gb116) (o := .cells #[.int .i64 a0_0, .slice A0_1 l0_1.length c0_1] 24 (0, 0)) (by (with_reducible repeat (first | refine blk_drewN ?_ _ | refine blk_drew ?_ | refine blk_alloc ?_ _)); exact BK116.out) hb); have n1_ := Aside0.mk (below_step (by repeat (first | (with_reducible first | exact HB.out | apply below_alloc | apply pw_below_drewN | apply below_drew1 | refine below_set ?_ GE116.out) | exact HB.out)) hb); have n2_ := Aside0.mk (hbox); have n3_ := Aside0.mk ((by rw [hg]; exact (below_size (by repeat (first | (with_reducible first | exact HB.out | apply below_alloc | apply pw_below_drewN | apply below_drew1 | refine below_set ?_ GE116.out) | exact HB.out))) : w.heap.size ≤ gb117)); have n4_ := Aside0.mk ((by rw [hg]; exact (below_size (by repeat (first | (with_reducible first | exact HB.out | apply below_alloc | apply pw_below_drewN | apply below_drew1 | refine below_set ?_ GE116.out) | exact HB.out))) : w.heap.size ≤ gb117)); have n5_ := Aside0.mk ((by rw [hg]; exact Nat.ne_of_lt (blk_lt (g := gb116) (o := .cells #[.int .i64 a0_0, .slice A0_1 l0_1.length c0_1] 24 (0, 0)) (by (with_reducible repeat (first | refine blk_drewN ?_ _ | refine blk_drew ?_ | refine blk_alloc ?_ _)); exact BK116.out)) : gb116 ≠ gb117)); have n6_ := Aside0.mk ((by rw [hg]; exact Nat.ne_of_gt (blk_lt (g := gb116) (o := .cells #[.int .i64 a0_0, .slice A0_1 l0_1.length c0_1] 24 (0, 0)) (by (with_reducible repeat (first | refine blk_drewN ?_ _ | refine blk_drew ?_ | refine blk_alloc ?_ _)); exact BK116.out)) : gb117 ≠ gb116)); clear BK116; clear HB; have BK116 := n0_; have HB := n1_; have BK117 := n2_; have GW117 := n3_; have GE117 := n4_; have NB116_117 := n5_; have NB117_116 := n6_; clear n0_ n1_ n2_ n3_ n4_ n5_ n6_; clear hb hbox hg; have hnb6 := NB116_117.out; have hnc6 := NB117_116.out; have hcz7_0 : w5.cell? ⟨gb116, 0, none⟩ = some (.int .i64 a0_0) := (blk_cell BK116.out 0).trans rfl; have hcz7_1 : w5.cell? ⟨gb116, 1, none⟩ = some (.slice A0_1 l0_1.length c0_1) := (blk_cell BK116.out 1).trans rfl; have hfz7_0 := blk_frozen BK116.out 0; have hfz7_1 := blk_frozen BK116.out 1; have hcz8_0 : w5.cell? ⟨gb117, 0, none⟩ = some (.int .i64 a1_0) := (blk_cell BK117.out 0).trans rfl; have hcz8_1 : w5.cell? ⟨gb117, 1, none⟩ = some (.slice A1_1 l1_1.length c1_1) := (blk_cell BK117.out 1).trans rfl; have hfz8_0 := blk_frozen BK117.out 0; have hfz8_1 := blk_frozen BK117.out 1) | ((with_reducible refine gate_callee (f := 24) rfl ?_); refine goesL_ (some 7) rfl rfl Tryd.func24 (by kernel_rfl) rfl #[.agg #[.int .i64 a0_0, .slice A0_1 l0_1.length c0_1], .agg #[.int .i64 a1_0, .slice A1_1 l1_1.length c1_1]] rfl (by (try simp only [List.map_toArray, List.map_cons, List.map_nil]); first | done | rfl | (simp only [List.length_drop, List.length_take]; rfl)) ?_; (with_reducible refine (rank_value_against.calls k a0_0 _ _ l0_1 a1_0 _ _ l1_1 t118 _ ?side1 ?side2 ?side3 ?side4 A3.out).mono ?_); (case side1 => repeat (first | exact (Kd.C_below HR0_1.out HB.out) | (with_reducible refine Kd.C_alloc ?_ _) | (with_reducible refine Kd.C_drewN ?_ _) | (with_reducible refine Kd.C_drew ?_))); (case side2 => exact HC0_1.out); (case side3 => repeat (first | exact (Kd.C_below HR1_1.out HB.out) | (with_reducible refine Kd.C_alloc ?_ _) | (with_reducible refine Kd.C_drewN ?_ _) | (with_reducible refine Kd.C_drew ?_))); (case side4 => exact HC1_1.out); rintro e w9 ⟨rfl, hb⟩; refine ⟨_, rfl, ?_⟩; have n0_ := Aside0.mk (blk_below (g := gb116) (o := .cells #[.int .i64 a0_0, .slice A0_1 l0_1.length c0_1] 24 (0, 0)) (by (with_reducible repeat (first | refine blk_drewN ?_ _ | refine blk_drew ?_ | refine blk_alloc ?_ _)); exact BK116.out) hb); have n1_ := Aside0.mk (blk_below (g := gb117) (o := .cells #[.int .i64 a1_0, .slice A1_1 l1_1.length c1_1] 24 (0, 0)) (by (with_reducible repeat (first | refine blk_drewN ?_ _ | refine blk_drew ?_ | refine blk_alloc ?_ _)); exact BK117.out) hb); have n2_ := Aside0.mk (below_step (by repeat (first | (with_reducible first | exact HB.out | apply below_alloc | apply pw_below_drewN | apply below_drew1 | refine below_set ?_ GE116.out | refine below_set ?_ GE117.out) | exact HB.out)) hb); clear BK116; clear BK117; clear HB; have BK116 := n0_; have BK117 := n1_; have HB := n2_; clear n0_ n1_ n2_; (try clear hb); (try clear hb2); (try clear hk); (try clear hi)))
  go_ret
  exact ⟨by first | rfl | (simp [errW_none, errW_some] <;> rfl) | (simp [*, errW_none, errW_some] <;> rfl), by repeat (first | (with_reducible first | exact HB.out | apply below_alloc | apply pw_below_drewN | apply below_drew1 | refine below_set ?_ GE116.out | refine below_set ?_ GE117.out) | exact HB.out)⟩

/-! ### rank_Code: function 22 -/
/-- A value's code, as bytes. -/
def codeBytes (a : Int) (l : List Int) : List UInt8 := Lib.itoa a ++ l.flatMap fun x => 44 :: Lib.itoa x
def rank_Code.f (a0_0 : Int) (l0_1 : List Int) : Option ByteArray :=
  if (-9223372036854775808 ≤ a0_0 ∧ a0_0 ≤ 9223372036854775807) ∧ (∀ x ∈ l0_1, -9223372036854775808 ≤ x ∧ x ≤ 9223372036854775807) ∧ l0_1.length ≤ 1000000 then some ⟨(codeBytes a0_0 l0_1).toArray⟩ else none
/-- Bytes, as numbers. -/
def codeInts (l : List UInt8) : List Int := l.map fun b => (b.toNat : Int)
theorem codeInts_app (a b : List UInt8) : codeInts (a ++ b) = codeInts a ++ codeInts b := by simp [codeInts]
theorem codeInts_str (l : List UInt8) : strOfNums (codeInts l) = ⟨l.toArray⟩ := by
  unfold strOfNums codeInts
  congr 1
  simp [List.map_map, Function.comp_def]
theorem codeBytes_snoc (a : Int) (l : List Int) (x : Int) : codeBytes a (l ++ [x]) = codeBytes a l ++ (44 :: Lib.itoa x) := by simp [codeBytes]
theorem itoa_len (x : Int) (h0 : -9223372036854775808 ≤ x) (h1 : x ≤ 9223372036854775807) : (Lib.itoa x).length ≤ 21 := Lib.itoa_length_le x h0 h1
theorem codeBytes_len (a : Int) (l : List Int) (h0 : -9223372036854775808 ≤ a ∧ a ≤ 9223372036854775807) (h : ∀ x ∈ l, -9223372036854775808 ≤ x ∧ x ≤ 9223372036854775807) : (codeBytes a l).length ≤ 21 + 22 * l.length := by
  unfold codeBytes
  rw [List.length_append]
  have h2 : (l.flatMap fun x => 44 :: Lib.itoa x).length ≤ 22 * l.length := by
    induction l with
    | nil => simp
    | cons x l ih =>
      rw [List.flatMap_cons, List.length_append, List.length_cons, List.length_cons]
      have := ih (fun y hy => h y (List.mem_cons_of_mem _ hy))
      have hx := h x List.mem_cons_self
      have := itoa_len x hx.1 hx.2
      omega
  have := itoa_len a h0.1 h0.2
  omega
theorem tab_belows {w : World} (h : YtlgndfplikhflaaDoorW.Tab.TabOK w) : ∀ W, Below w.heap.size w W → Lib.TabBelow Tryd.prog (w.heap.size + 1) W "internal/strconv.uint64pow10" .u64 Lib.pow10Tab := fun W hb w' hb' => YtlgndfplikhflaaDoorW.Tab.tab_below h (hb.trans (hb'.mono (Nat.le_succ _)))
theorem appendInt_nums (B : Nat) (y : Int) (hy : -9223372036854775808 ≤ y ∧ y ≤ 9223372036854775807) (v : Value) (X : List Int) (w : World) (hown : w.ownsRow B 5 1 v X.length (nums .u8 X)) (hBw : B ≤ w.heap.size) (hlim : X.length + 21 ≤ 140737488355328) (htab : Lib.TabBelow Tryd.prog B w "internal/strconv.uint64pow10" .u64 Lib.pow10Tab) :
    Calls Tryd.prog 34 #[v, .int .i64 y, .int .i64 10] w fun e w' => ∃ v', e = .returned v' ∧ w'.ownsRow B 5 1 v' (X ++ codeInts (Lib.itoa y)).length (nums .u8 (X ++ codeInts (Lib.itoa y))) ∧ Below B w w' := by
  refine (Go.Proofs.Tryd.strconv_AppendInt_10 B X.length y hy.1 hy.2 v (nums .u8 X) w hown hBw hlim htab).mono ?_
  rintro e w' ⟨v', rfl, ho, hb, _⟩
  refine ⟨v', rfl, ?_, hb⟩
  have e1 : (X ++ codeInts (Lib.itoa y)).length = X.length + (Lib.itoa y).length := by simp [codeInts]
  have e2 : nums .u8 (X ++ codeInts (Lib.itoa y)) = nums .u8 X ++ Lib.byteCells (Lib.itoa y) := by simp [nums, codeInts, Lib.byteCells, List.map_map, Function.comp_def]
  rw [e1, e2]
  exact ho
set_option maxHeartbeats 4000000 in
set_option maxRecDepth 100000 in
theorem rank_Code.walk_ (a0_0 : Int) (A0_1 : Option Addr) (c0_1 : Nat) (l0_1 : List Int) (r : ByteArray) (w : World) (hr0_1 : Kd.C (Kd.int .i64) w A0_1 l0_1.length l0_1) (h1 : -9223372036854775808 ≤ a0_0 ∧ a0_0 ≤ 9223372036854775807) (h2 : ∀ x ∈ l0_1, -9223372036854775808 ≤ x ∧ x ≤ 9223372036854775807) (h3 : l0_1.length ≤ 1000000) (hr : r = ⟨(codeBytes a0_0 l0_1).toArray⟩) (hT_ : YtlgndfplikhflaaDoorW.Tab.TabOK w) :
    Calls Tryd.prog 22 #[.agg #[.int .i64 a0_0, .slice A0_1 l0_1.length c0_1]] w fun e w' => e = .returned (.string r) ∧ Below w.heap.size w w' := by
  have hu := Tryd.underlying24
  have HT_ := Aside0.mk hT_
  have H1 := Aside0.mk h1
  have H2 := Aside0.mk h2
  have H3 := Aside0.mk h3
  have HR := Aside0.mk hr
  have HC := Aside0.mk hr0_1
  clear h1 h2 h3 hr hr0_1 hT_
  have HB := Aside0.mk (Below.refl w.heap.size w)
  go_enter Tryd.func22, Tryd.ntmps22
  go_wp2_with (first
    | ((with_reducible refine gate_dst (N := 1) rfl ?_); refine box_event ?hg (N := 1) ?hd (cs := #[.int .i64 a0_0, .slice A0_1 l0_1.length c0_1]) (t := 24) ?hr ?_; (case hd => rfl); (case hg => rfl); (case hr => first | (go_simp; done) | (go_simp; rfl)); intro gb hg w1 hbox hb; subst hg; have HB1 := Aside0.mk hb; have HX := Aside0.mk hbox; have hlt := (Array.getElem?_eq_some_iff.1 hbox).1; have HZ := Aside0.mk hlt; have hc0 : w1.cell? ⟨w.heap.size, 0, none⟩ = some (.int .i64 a0_0) := (blk_cell HX.out 0).trans rfl; clear hbox hb hlt HB)
    | (go_at_call 34; (refine (appendInt_nums (w.heap.size + 1) a0_0 H1.out (.slice none 0 0) [] _ (own_nil _ _ _ _) ?hB_ (by decide) ?hT_).mono ?_); (case hB_ => exact HZ.out); (case hT_ => exact tab_belows HT_.out _ HB1.out); rintro e w5 ⟨v5, rfl, hown, hb⟩; clear hc0; have HB5 := Aside0.mk (Below.trans HB1.out (hb.mono (Nat.le_succ _))); have HX5 := Aside0.mk ((hb.block w.heap.size (Nat.lt_succ_self _)).trans HX.out); have HO := Aside0.mk hown; have hc1 : w5.cell? ⟨w.heap.size, 1, none⟩ = some (.slice A0_1 l0_1.length c0_1) := (blk_cell HX5.out 1).trans rfl; have HS5 := Aside0.mk (Nat.lt_of_lt_of_le HZ.out hb.size); clear hown hb HB1 HX HZ))
  clear hc1
  go_loopg [3, 12] l0_1.length (fun kq v3 v12 wr => ∃ i : Nat, v12 = .int .i64 i ∧ Aside0 (i + kq = l0_1.length) ∧ Aside0 (wr.ownsRow (w.heap.size + 1) 5 1 v3 (codeInts (codeBytes a0_0 (l0_1.take i))).length (nums .u8 (codeInts (codeBytes a0_0 (l0_1.take i))))) ∧ Aside0 (Below w.heap.size w wr) ∧ Aside0 (w.heap.size + 1 ≤ wr.heap.size))
  case atStart => exact ⟨0, rfl, ⟨by simp⟩, ⟨by simpa [codeBytes] using HO.out⟩, HB5, HS5⟩
  case round =>
    clear HO HB5 HX5 HS5
    obtain ⟨i, rfl, HI, HO, HB, HS⟩ := hrel
    have hX := codeBytes_len a0_0 (l0_1.take i) H1.out (fun x hx => H2.out x (List.mem_of_mem_take hx))
    have HX := Aside0.mk (show (codeInts (codeBytes a0_0 (l0_1.take i))).length ≤ 22000021 by have := H3.out; simp only [codeInts, List.length_map]; simp only [List.length_take] at hX; omega)
    clear hX
    by_cases hi : i < l0_1.length
    · cases gk with
      | zero => exact absurd HI.out (by omega)
      | succ k1 =>
        obtain ⟨ad, he, hc⟩ := Kd.at_int (Kd.C_below HC.out HB.out) (i : Int) (by omega) (by omega)
        subst he
        rw [Int.toNat_natCast] at hc
        obtain ⟨y, HY⟩ : ∃ y, Aside0 (y = rd l0_1 i) := ⟨_, ⟨rfl⟩⟩
        rw [← HY.out] at hc
        have hmem : rd l0_1 i ∈ l0_1 := by
          unfold rd
          rw [Int.toNat_natCast, List.getD_eq_getElem?_getD, List.getElem?_eq_getElem hi]
          exact List.getElem_mem hi
        have HY1 := Aside0.mk (show -9223372036854775808 ≤ y ∧ y ≤ 9223372036854775807 by rw [HY.out]; exact H2.out _ hmem)
        have HY2 := Aside0.mk (show l0_1.take (i + 1) = l0_1.take i ++ [y] by rw [HY.out]; unfold rd; rw [Int.toNat_natCast, List.take_add_one, List.getD_eq_getElem?_getD, List.getElem?_eq_getElem hi]; rfl)
        clear hmem
        have hi0 : (i : Int) < (l0_1.length : Int) := by omega
        have HW := Aside0.mk (show wrap64 ((i : Int) + 1) = ((i + 1 : Nat) : Int) by have := H3.out; unfold wrap64; omega)
        go_wp2_with (first
          | ((with_reducible refine gate_builtin (b := .append) (xs := #[.tmp 16, .tmp 17]) rfl ?_); at_builtin; refine print_append_num (w0 := wr) (w.heap.size + 1) rfl (.tmp 16) (.tmp 17) 58 5 .u8 1 rfl Tryd.underlying58 info5 (by decide) u3 (codeInts (codeBytes a0_0 (l0_1.take i))) 44 rfl rfl HO.out (Below.refl _ _) HS.out ?aL ?_; (case aL => have := HX.out; omega); intro v18 w18 ho18 hb18 hg18 hat18; have HO18 := Aside0.mk ho18; have HB18 := Aside0.mk hb18; have HS18 := Aside0.mk (Nat.le_trans HS.out hb18.size); clear ho18 hb18 hg18 hat18)
          | (go_at_call 34; (refine (appendInt_nums (w.heap.size + 1) y HY1.out v18 (codeInts (codeBytes a0_0 (l0_1.take i)) ++ [44]) _ HO18.out HS18.out ?hL_ ?hT_).mono ?_); (case hL_ => have := HX.out; simp only [List.length_append, List.length_cons, List.length_nil]; omega); (case hT_ => exact tab_belows HT_.out _ (Below.trans HB.out (HB18.out.mono (Nat.le_succ _)))); rintro e w20 ⟨v20, rfl, ho20, hb20⟩; have HO20 := Aside0.mk ho20; have HB20 := Aside0.mk hb20; clear ho20 hb20))
        go_roundg k1
        case measure => omega
        case rel =>
          refine ⟨i + 1, by rw [HW.out], ⟨by have := HI.out; omega⟩, ⟨?_⟩, ⟨Below.trans (Below.trans HB.out (HB18.out.mono (Nat.le_succ _))) (HB20.out.mono (Nat.le_succ _))⟩, ⟨Nat.le_trans HS18.out HB20.out.size⟩⟩
          have e : codeInts (codeBytes a0_0 (l0_1.take (i + 1))) = codeInts (codeBytes a0_0 (l0_1.take i)) ++ [44] ++ codeInts (Lib.itoa y) := by rw [HY2.out, codeBytes_snoc, codeInts_app]; simp [codeInts]
          rw [e]
          exact HO20.out
    · have hi1 : i = l0_1.length := by have := HI.out; omega
      have hi0 : ¬ (i : Int) < (l0_1.length : Int) := by omega
      have HX2 := Aside0.mk (show codeInts (codeBytes a0_0 (l0_1.take i)) = codeInts (codeBytes a0_0 l0_1) by rw [hi1, List.take_length])
      clear hi1
      have hcv := own_string (P := Tryd.prog) Tryd.underlying58 Tryd.underlying5 Tryd.underlying9 HO.out
      rw [HX2.out, codeInts_str, ← HR.out] at hcv
      go_wp2
      go_ret
      exact ⟨rfl, HB.out⟩
theorem rank_Code.calls (a0_0 : Int) (A0_1 : Option Addr) (c0_1 : Nat) (l0_1 : List Int) (r : ByteArray) (w : World) (hr0_1 : Kd.C (Kd.int .i64) w A0_1 l0_1.length l0_1) (hc0_1 : l0_1.length ≤ c0_1) (h : rank_Code.f a0_0 l0_1 = some r) (hT_ : YtlgndfplikhflaaDoorW.Tab.TabOK w) :
    Calls Tryd.prog 22 #[.agg #[.int .i64 a0_0, .slice A0_1 l0_1.length c0_1]] w fun e w' => e = .returned (.string r) ∧ Below w.heap.size w w' := by
  unfold rank_Code.f at h
  by_cases hm : (-9223372036854775808 ≤ a0_0 ∧ a0_0 ≤ 9223372036854775807) ∧ (∀ x ∈ l0_1, -9223372036854775808 ≤ x ∧ x ≤ 9223372036854775807) ∧ l0_1.length ≤ 1000000
  · rw [if_pos hm] at h
    exact rank_Code.walk_ a0_0 A0_1 c0_1 l0_1 r w hr0_1 hm.1 hm.2.1 hm.2.2 (Option.some.inj h).symm hT_
  · rw [if_neg hm] at h
    cases h

end Go.Proofs.YtlgndfplikhflaaDoor.G
