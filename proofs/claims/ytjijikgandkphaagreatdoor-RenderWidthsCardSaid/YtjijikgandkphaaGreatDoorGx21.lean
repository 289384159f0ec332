import Derived.Test.YtjijikgandkphaaGreatDoorGx0
import Derived.Test.YtjijikgandkphaaGreatDoorGx12
import Derived.Test.YtjijikgandkphaaGreatDoorGx20
namespace Go.Proofs.YtjijikgandkphaaGreatDoor.G
open Go.RowKit Go.Proofs.YtjijikgandkphaaGreatDoorW.PrintWords Go.Proofs.YtjijikgandkphaaGreatDoorW.PrintLast Go.Proofs.YtjijikgandkphaaGreatDoorW.PrintMore Go.Proofs.YtjijikgandkphaaGreatDoorW.VWords Go.Proofs.YtjijikgandkphaaGreatDoorW.Tab
attribute [local go_sem] max2_int min2_int max_two min_two max_three min_three max_four min_four
set_option linter.unusedVariables false
set_option linter.unusedSimpArgs false
def slices_Clone_int_int.f (l0 : List Int) : Option (List Int) := if l0.length < 17592186044416 then some l0 else none
set_option maxHeartbeats 1000000 in
theorem slices_Clone_int_int.calls (A0 : Option Addr) (c0 : Nat) (l0 : List Int) (r : List Int) (w : World) (hr0 : Kd.C (Kd.int .i64) w A0 l0.length l0) (hc0 : l0.length ≤ c0) (h : slices_Clone_int_int.f l0 = some r) :
    Calls Tryz.prog 35 #[.slice A0 l0.length c0] w fun e w' => ∃ v0_ : Value, e = .returned (v0_) ∧ Kd.R (Kd.int .i64) 3 w' w.heap.size (fun _ => True) v0_ r ∧ Below w.heap.size w w' := by
  unfold slices_Clone_int_int.f at h
  by_cases hlim : ¬ l0.length < 17592186044416
  · rw [if_neg hlim] at h
    exact absurd h (by simp)
  replace hlim := Decidable.not_not.1 hlim
  rw [if_pos hlim] at h
  obtain rfl := Option.some.inj h
  clear h
  have HB := Aside0.mk (Below.refl w.heap.size w)
  have LM := Aside0.mk hlim
  have HR := Aside0.mk hr0
  have HC := Aside0.mk hc0
  clear hlim hr0 hc0
  have hq := fun W => Lib.run_eql_slice_nil (P := Tryz.prog) W 25 3 A0 l0.length c0 0 0 Tryz.underlying25
  cases A0 with
  | none =>
    obtain rfl : l0 = [] := by
      rcases Nat.eq_zero_or_pos l0.length with h0 | h0
      · exact List.eq_nil_of_length_eq_zero h0
      · obtain ⟨ad, he, _⟩ := HR.out.2.2 h0
        cases he
    simp only [List.length_nil] at hq ⊢
    go_enter Tryz.func35, Tryz.ntmps35
    go_wp2
    go_ret
    exact ⟨_, rfl, Kd.R_nil _ _ _ _ _, HB.out⟩
  | some ad =>
    go_enter Tryz.func35, Tryz.ntmps35
    go_wp2_with (first
      | ((with_reducible refine gate_dst (N := 5) rfl ?_); refine Kd.R_lit (Kd.int .i64) (w0 := w) w.heap.size 3 ?hg (N := 5) ?hd (xs := ([] : List Int)) (inner := []) (ok := fun _ => True) (okp := fun _ => True) ?hr ?hp (fun _ hk => hk) trivial (Below.refl _ _) (Nat.le_refl _) (by simp) ?_; (case hd => rfl); (case hg => rfl); (case hr => first | (go_simp; done) | (go_simp; rfl)); (case hp => exact Reps.none _ _); intro v5 w5 ho5 hb5 hg5 hn5; have HO5 := Aside0.mk ho5; clear HB; have HB := Aside0.mk hb5; clear ho5 hb5 hg5 hn5)
      | ((with_reducible refine gate_builtin (b := .append) (xs := #[.tmp 5, .tmp 6]) rfl ?_); at_builtin; refine Kd.R_append_row (Value.int .i64) (0 : Int) (h1 := fun _ => rfl) (w0 := w) w.heap.size rfl (.tmp 5) (.tmp 6) 25 3 (.int .i64 0) 8 rfl Tryz.underlying25 info3 rfl (by decide) v5 ([] : List Int) l0 (some ad) l0.length c0 (fun _ => True) rfl rfl (fun _ _ => trivial) HO5.out ?aR HB.out (below_size HB.out) ?aL ?_; (case aR => exact Kd.C_below HR.out HB.out); (case aL => have := LM.out; simp only [List.length_nil]; omega); intro v7 w7 ho hb hg hat; have HO7 := Aside0.mk ho; clear HB; have HB := Aside0.mk hb; clear ho hb hg hat))
    go_ret
    exact ⟨_, rfl, by rw [List.nil_append] at HO7; exact HO7.out, HB.out⟩
def render_Styles.l0 : Nat → Int → List Int → List (S37) → Int → Int → Option (List Int)
  | 0, _, _, _, _, _ => none
  | k + 1, x1, x5, x9, x10, x11 => if x11 < x10 then (if 0 ≤ x11 then (if x11 < (x9.length : Int) then (if ((rd_T37 x9 x11).f0) = x1 then (if x5.length < 17592186044416 then (render_Styles.l0 k x1 (x5 ++ [x11]) x9 x10 (wrap64 (x11 + 1))) else (none)) else (render_Styles.l0 k x1 x5 x9 x10 (wrap64 (x11 + 1)))) else (none)) else (none)) else ((slices_Clone_int_int.f x5).bind fun t206 => (some t206))
def render_Styles.f (k : Nat) (a0_0 : ByteArray) (a0_1 : Int) (a0_2 : Int) (l0_3 : List (S89)) (l0_4 : List (S110)) (l0_5 : List (S37)) (a1 : Int) : Option (List Int) := render_Styles.l0 k a1 ([] : List Int) l0_5 (l0_5.length : Int) 0
theorem render_Styles.mono_l : ∀ k, (∀ y0 y1 y2 y3 y4, LeO (render_Styles.l0 k y0 y1 y2 y3 y4) (render_Styles.l0 (k + 1) y0 y1 y2 y3 y4))
  | 0 => fun _ _ _ _ _ r h => by simp [render_Styles.l0] at h
  | k + 1 => by
    have ih0 := render_Styles.mono_l k
    · intro y0 y1 y2 y3 y4
      unfold render_Styles.l0
      repeat' first
      | (with_reducible exact ih0 _ _ _ _ _)
      | (with_reducible exact LeO.refl _)
      | (with_reducible exact LeO.none _)
      | (with_reducible refine LeO.ite ?_ ?_)
      | (with_reducible refine LeO.bind ?_ (fun _ => ?_))
      | exact ih0 _ _ _ _ _
      | exact LeO.none _
      | refine LeO.ite ?_ ?_
      | refine LeO.bind ?_ (fun _ => ?_)
theorem render_Styles.mono : ∀ a0 a1 a2 a3 a4 a5 a6 k, LeO (render_Styles.f k a0 a1 a2 a3 a4 a5 a6) (render_Styles.f (k + 1) a0 a1 a2 a3 a4 a5 a6) := by
  intro a0 a1 a2 a3 a4 a5 a6 k
  have ih0 := render_Styles.mono_l k
  unfold render_Styles.f
  repeat' first
      | (with_reducible exact ih0 _ _ _ _ _)
      | (with_reducible exact LeO.refl _)
      | (with_reducible exact LeO.none _)
      | (with_reducible refine LeO.ite ?_ ?_)
      | (with_reducible refine LeO.bind ?_ (fun _ => ?_))
      | exact ih0 _ _ _ _ _
      | exact LeO.none _
      | refine LeO.ite ?_ ?_
      | refine LeO.bind ?_ (fun _ => ?_)
set_option maxHeartbeats 8000000 in
set_option maxRecDepth 100000 in
theorem render_Styles.calls (k : Nat) (a0_0 : ByteArray) (a0_1 : Int) (a0_2 : Int) (A0_3 : Option Addr) (c0_3 : Nat) (l0_3 : List (S89)) (A0_4 : Option Addr) (c0_4 : Nat) (l0_4 : List (S110)) (A0_5 : Option Addr) (c0_5 : Nat) (l0_5 : List (S37)) (a1 : Int) (r : List Int) (w : World) (hr0_3 : Kd.C k89 w A0_3 l0_3.length l0_3) (hc0_3 : l0_3.length ≤ c0_3) (hr0_4 : Kd.C k110 w A0_4 l0_4.length l0_4) (hc0_4 : l0_4.length ≤ c0_4) (hr0_5 : Kd.C k37 w A0_5 l0_5.length l0_5) (hc0_5 : l0_5.length ≤ c0_5) (h : render_Styles.f k a0_0 a0_1 a0_2 l0_3 l0_4 l0_5 a1 = some r) :
    Calls Tryz.prog 17 #[.agg #[.string a0_0, .int .i64 a0_1, .int .i64 a0_2, .slice A0_3 l0_3.length c0_3, .slice A0_4 l0_4.length c0_4, .slice A0_5 l0_5.length c0_5], .int .i64 a1] w fun e w' => ∃ v0_ : Value, e = .returned (v0_) ∧ Kd.R (Kd.int .i64) 3 w' w.heap.size (fun _ => True) v0_ r ∧ Below w.heap.size w w' := by
  have hu33 := Tryz.underlying33
  have hu37 := Tryz.underlying37
  have HR0_3 := Aside0.mk hr0_3
  have HC0_3 := Aside0.mk hc0_3
  clear hr0_3 hc0_3
  have HR0_4 := Aside0.mk hr0_4
  have HC0_4 := Aside0.mk hc0_4
  clear hr0_4 hc0_4
  have HR0_5 := Aside0.mk hr0_5
  have HC0_5 := Aside0.mk hc0_5
  clear hr0_5 hc0_5
  have HB := Aside0.mk (Below.refl w.heap.size w)
  have H : (render_Styles.l0 k a1 ([] : List Int) l0_5 (l0_5.length : Int) 0) = some r := h
  clear h
  have H' := Aside0.mk H
  clear H
  go_enter Tryz.func17, Tryz.ntmps17
  go_wp2_with (first | ((with_reducible refine gate_dst (N := 2) rfl ?_); refine box_event ?hg (N := 2) ?hd (cs := #[.string a0_0, .int .i64 a0_1, .int .i64 a0_2, .slice A0_3 l0_3.length c0_3, .slice A0_4 l0_4.length c0_4, .slice A0_5 l0_5.length c0_5]) (t := 33) ?hr ?_; (case hd => rfl); (case hg => rfl); (case hr => first | (go_simp; done) | (go_simp; rfl)); intro gb200 hg w3 hbox hb; have n0_ := Aside0.mk (below_step (by exact wU HB.out) hb); have n1_ := Aside0.mk (hbox); have n2_ := Aside0.mk ((by rw [hg]; exact (below_size (by exact wU HB.out)) : w.heap.size ≤ gb200)); have n3_ := Aside0.mk ((by rw [hg]; exact (below_size (by exact wU HB.out)) : w.heap.size ≤ gb200)); clear HB; have HB := n0_; have BK200 := n1_; have GW200 := n2_; have GE200 := n3_; clear n0_ n1_ n2_ n3_; clear hb hbox hg; have hcz4_0 : w3.cell? ⟨gb200, 0, none⟩ = some (.string a0_0) := (blk_cell BK200.out 0).trans rfl; have hcz4_1 : w3.cell? ⟨gb200, 1, none⟩ = some (.int .i64 a0_1) := (blk_cell BK200.out 1).trans rfl; have hcz4_2 : w3.cell? ⟨gb200, 2, none⟩ = some (.int .i64 a0_2) := (blk_cell BK200.out 2).trans rfl; have hcz4_3 : w3.cell? ⟨gb200, 3, none⟩ = some (.slice A0_3 l0_3.length c0_3) := (blk_cell BK200.out 3).trans rfl; have hcz4_4 : w3.cell? ⟨gb200, 4, none⟩ = some (.slice A0_4 l0_4.length c0_4) := (blk_cell BK200.out 4).trans rfl; have hcz4_5 : w3.cell? ⟨gb200, 5, none⟩ = some (.slice A0_5 l0_5.length c0_5) := (blk_cell BK200.out 5).trans rfl; have hfz4_0 := blk_frozen BK200.out 0; have hfz4_1 := blk_frozen BK200.out 1; have hfz4_2 := blk_frozen BK200.out 2; have hfz4_3 := blk_frozen BK200.out 3; have hfz4_4 := blk_frozen BK200.out 4; have hfz4_5 := blk_frozen BK200.out 5))
  go_loopg [5, 11] k (fun kq v5 v11 w' => ∃ (x5_1 : List Int) (x11_1 : Int), v11 = .int .i64 x11_1 ∧ Aside0 (render_Styles.l0 kq a1 x5_1 l0_5 (l0_5.length : Int) x11_1 = some r) ∧ Aside0 (kq ≤ k) ∧ Aside0 (Kd.R (Kd.int .i64) 3 w' w.heap.size (fun _ => True) v5 x5_1) ∧ Aside0 (w'.heap[gb200]? = some (.cells #[.string a0_0, .int .i64 a0_1, .int .i64 a0_2, (.slice A0_3 l0_3.length c0_3), (.slice A0_4 l0_4.length c0_4), (.slice A0_5 l0_5.length c0_5)] 33 (0, 0))) ∧ Aside0 (Below w.heap.size w w'))
  case atStart => exact ⟨(([] : List Int)), (0), (by first | rfl | (simp; done) | (simp [*]; done)), H', ⟨Nat.le_refl _⟩, ⟨by first | exact Kd.R_nil _ _ _ _ _ | exact Kd.N_nil _ _ _ _ _ | exact Kd.V_nil _ _ _ _ _ | exact Kd.Q_nil _ _ _ _ _ | exact Kd.S_nil _ _ _ _ _⟩, ⟨by (with_reducible repeat (first | refine blk_drewN ?_ _ | refine blk_drew ?_ | refine blk_alloc ?_ _)); exact BK200.out⟩, ⟨by exact wS HB.out GE200.out⟩⟩
  case round =>
   clear H'
   try clear c1
   try clear p2
   try clear hcz4_0
   try clear hcz4_1
   try clear hcz4_2
   try clear hcz4_3
   try clear hcz4_4
   try clear hcz4_5
   try clear hfz4_0
   try clear hfz4_1
   try clear hfz4_2
   try clear hfz4_3
   try clear hfz4_4
   try clear hfz4_5
   obtain ⟨x5_1, x11_1, rfl, HA, HK1, HO_5, BK200, HB⟩ := hrel
   cases gk with
   | zero => exact absurd HA.out (by simp [render_Styles.l0])
   | succ k1 =>
    have H := HA.out
    clear HA
    simp only [render_Styles.l0] at H
    by_cases c5 : x11_1 < (l0_5.length : Int)
    rotate_left
    · rw [if_neg c5] at H
      have c5b0 : decide (x11_1 < (l0_5.length : Int)) = false := decide_eq_false c5
      clear c5
      replace H := Option.bind_eq_some_iff.mp H
      obtain ⟨t206, A170, H⟩ := H
      replace H : (some t206) = some r := H
      have A17 := Aside0.mk A170
      clear A170
      obtain rfl := Option.some.inj H
      obtain ⟨Ao18, co18, eo18⟩ := Kd.R_slice HO_5.out
      subst eo18
      go_wp2_with (first | ((with_reducible refine gate_callee (f := 35) rfl ?_); refine goesL_ (some 26) rfl rfl Tryz.func35 (by kernel_rfl) rfl #[.slice Ao18 x5_1.length co18] rfl (by (try simp only [List.map_toArray, List.map_cons, List.map_nil]); first | done | rfl | (simp only [List.length_drop, List.length_take]; rfl)) ?_; (with_reducible refine (slices_Clone_int_int.calls _ _ x5_1 t206 _ ?side1 ?side2 A17.out).mono ?_); (case side1 => repeat (first | exact (Kd.R_reads' HO_5.out).2.2 | (with_reducible refine Kd.C_alloc ?_ _) | (with_reducible refine Kd.C_drewN ?_ _) | (with_reducible refine Kd.C_drew ?_))); (case side2 => exact (Kd.R_reads' HO_5.out).2.1); rintro e w19 ⟨v207, rfl, ho0, hb⟩; refine ⟨_, rfl, ?_⟩; have n0_ := Aside0.mk (Kd.R_elder' (by exact rU HO_5.out) (Kd.R_base ho0) hb); have n1_ := Aside0.mk (Kd.R_lower (Kd.R_new' ho0 (Kd.R_lt (by exact rU HO_5.out))) (below_size (by exact wS HB.out GE200.out))); have n2_ := Aside0.mk (blk_below (g := gb200) (o := .cells #[.string a0_0, .int .i64 a0_1, .int .i64 a0_2, .slice A0_3 l0_3.length c0_3, .slice A0_4 l0_4.length c0_4, .slice A0_5 l0_5.length c0_5] 33 (0, 0)) (by (with_reducible repeat (first | refine blk_drewN ?_ _ | refine blk_drew ?_ | refine blk_alloc ?_ _)); exact BK200.out) hb); have n3_ := Aside0.mk (below_step (by exact wS HB.out GE200.out) hb); clear HO_5; clear BK200; clear HB; have HO_5 := n0_; have HO208 := n1_; have BK200 := n2_; have HB := n3_; clear n0_ n1_ n2_ n3_; (try clear hb); (try clear hb2); (try clear hk); (try clear hi); (try clear ho0)))
      go_ret
      exact ⟨_, by first | rfl | (simp [errW_none, errW_some] <;> rfl) | (simp [*, errW_none, errW_some] <;> rfl), by exact rU (Kd.R_mono HO208.out (fun _ hk => trivial)), by exact wS HB.out GE200.out⟩
    rw [if_pos c5] at H
    have c5b0 : decide (x11_1 < (l0_5.length : Int)) = true := decide_eq_true c5
    clear c5
    by_cases c6 : 0 ≤ x11_1
    rotate_left
    · rw [if_neg c6] at H
      exact absurd H (by simp)
    rw [if_pos c6] at H
    have c6b0 : decide (0 ≤ x11_1) = true := decide_eq_true c6
    clear c6
    by_cases c7 : x11_1 < (l0_5.length : Int)
    rotate_left
    · rw [if_neg c7] at H
      exact absurd H (by simp)
    rw [if_pos c7] at H
    have c7b0 : decide (x11_1 < (l0_5.length : Int)) = true := decide_eq_true c7
    clear c7
    by_cases c8 : ((rd_T37 l0_5 x11_1).f0) = a1
    rotate_left
    · rw [if_neg c8] at H
      have c8b0 : (((rd_T37 l0_5 x11_1).f0) == a1) = false := beq_eq_false_iff_ne.mpr c8
      have c8b1 : (((rd_T37 l0_5 x11_1).f0) != a1) = true := bne_iff_ne.mpr c8
      have H' := Aside0.mk H
      clear H
      have p201 : 0 ≤ (x11_1 : Int) := of_decide_eq_true (by first | (with_reducible assumption) | assumption)
      have q201 : x11_1 < (l0_5.length : Int) := of_decide_eq_true (by first | (with_reducible assumption) | assumption)
      obtain ⟨ad201, A201_1, c201_1, e201, hx201_0, hx201_1, hl201_1, hi201_1⟩ := at_T37 HR0_5.out x11_1 p201 q201
      cases e201
      replace hx201_0 := (HB.out.cell (World.block_lt_of_cell? w _ hx201_0)).trans hx201_0
      replace hx201_1 := (HB.out.cell (World.block_lt_of_cell? w _ hx201_1)).trans hx201_1
      have HR201_1 := Aside0.mk hi201_1
      have HC201_1 := Aside0.mk hl201_1
      clear hi201_1 hl201_1
      replace p201 := eq_true p201
      replace q201 := eq_true q201
      go_wp2_with (first | ((with_reducible refine gate_dst (N := 7) rfl ?_); refine box_event ?hg (N := 7) ?hd (cs := #[.int .i64 0, .slice none 0 0]) (t := 37) ?hr ?_; (case hd => rfl); (case hg => rfl); (case hr => first | (go_simp; done) | (go_simp; rfl)); intro gb202 hg w14 hbox hb; have n0_ := Aside0.mk (Kd.R_below (by exact rU HO_5.out) hb); have n1_ := Aside0.mk (blk_below (g := gb200) (o := .cells #[.string a0_0, .int .i64 a0_1, .int .i64 a0_2, .slice A0_3 l0_3.length c0_3, .slice A0_4 l0_4.length c0_4, .slice (some ad201) l0_5.length c0_5] 33 (0, 0)) (by (with_reducible repeat (first | refine blk_drewN ?_ _ | refine blk_drew ?_ | refine blk_alloc ?_ _)); exact BK200.out) hb); have n2_ := Aside0.mk (below_step (by exact wS HB.out GE200.out) hb); have n3_ := Aside0.mk (hbox); have n4_ := Aside0.mk ((by rw [hg]; exact (below_size (by exact wS HB.out GE200.out)) : w.heap.size ≤ gb202)); have n5_ := Aside0.mk ((by rw [hg]; exact (below_size (by exact wS HB.out GE200.out)) : w.heap.size ≤ gb202)); have n6_ := Aside0.mk ((by rw [hg]; exact Nat.ne_of_lt (blk_lt (g := gb200) (o := .cells #[.string a0_0, .int .i64 a0_1, .int .i64 a0_2, .slice A0_3 l0_3.length c0_3, .slice A0_4 l0_4.length c0_4, .slice (some ad201) l0_5.length c0_5] 33 (0, 0)) (by (with_reducible repeat (first | refine blk_drewN ?_ _ | refine blk_drew ?_ | refine blk_alloc ?_ _)); exact BK200.out)) : gb200 ≠ gb202)); have n7_ := Aside0.mk ((by rw [hg]; exact Nat.ne_of_gt (blk_lt (g := gb200) (o := .cells #[.string a0_0, .int .i64 a0_1, .int .i64 a0_2, .slice A0_3 l0_3.length c0_3, .slice A0_4 l0_4.length c0_4, .slice (some ad201) l0_5.length c0_5] 33 (0, 0)) (by (with_reducible repeat (first | refine blk_drewN ?_ _ | refine blk_drew ?_ | refine blk_alloc ?_ _)); exact BK200.out)) : gb202 ≠ gb200)); clear HO_5; clear BK200; clear HB; have HO_5 := n0_; have BK200 := n1_; have HB := n2_; have BK202 := n3_; have GW202 := n4_; have GE202 := n5_; have NB200_202 := n6_; have NB202_200 := n7_; clear n0_ n1_ n2_ n3_ n4_ n5_ n6_ n7_; clear hb hbox hg; have hnb15 := NB202_200.out; have hnc15 := NB200_202.out; have hcz16_0 : w14.cell? ⟨gb202, 0, none⟩ = some (.int .i64 0) := (blk_cell BK202.out 0).trans rfl; have hcz16_1 : w14.cell? ⟨gb202, 1, none⟩ = some (.slice none 0 0) := (blk_cell BK202.out 1).trans rfl; have hfz16_0 := blk_frozen BK202.out 0; have hfz16_1 := blk_frozen BK202.out 1))
      go_roundg k1
      case measure => have := HK1.out; omega
      case rel => exact ⟨(x5_1), (wrap64 (x11_1 + 1)), (by first | rfl | (simp; done) | (simp [*]; done)), H', ⟨by have := HK1.out; omega⟩, ⟨by exact rU (Kd.R_mono (Kd.R_far (p := ⟨gb202, 1, none⟩) (Kd.R_far (p := ⟨gb202, 0, none⟩) (Kd.R_types HO_5.out BK202.out (by decide)) (fun _ hk => hk.2) (.int .i64 ((rd_T37 l0_5 x11_1).f0))) (fun _ hk => hk.2) (.slice A201_1 ((rd_T37 l0_5 x11_1).f1).length c201_1)) (fun _ hk => trivial))⟩, ⟨by (with_reducible repeat (first | refine blk_drewN ?_ _ | refine blk_drew ?_ | refine blk_alloc ?_ _)); refine blk_far ?_ NB200_202.out _; (with_reducible repeat (first | refine blk_drewN ?_ _ | refine blk_drew ?_ | refine blk_alloc ?_ _)); refine blk_far ?_ NB200_202.out _; (with_reducible repeat (first | refine blk_drewN ?_ _ | refine blk_drew ?_ | refine blk_alloc ?_ _)); exact BK200.out⟩, ⟨by exact wZ HB.out GE200.out GE202.out⟩⟩
    rw [if_pos c8] at H
    have c8b0 : (((rd_T37 l0_5 x11_1).f0) == a1) = true := beq_iff_eq.mpr c8
    have c8b1 : (((rd_T37 l0_5 x11_1).f0) != a1) = false := bne_eq_false_iff_eq.mpr c8
    clear c8
    by_cases c9 : x5_1.length < 17592186044416
    rotate_left
    · rw [if_neg c9] at H
      exact absurd H (by simp)
    rw [if_pos c9] at H
    have LMc9 := Aside0.mk c9
    clear c9
    obtain ⟨y203, hy203⟩ : ∃ y_ : List Int, y_ = (x5_1 ++ [x11_1]) := ⟨_, rfl⟩
    replace H : (render_Styles.l0 k1 a1 y203 l0_5 (l0_5.length : Int) (wrap64 (x11_1 + 1))) = some r := by first | (rw [hy203]; with_reducible exact H) | (have H2_ := (Option.bind_some _ _).symm.trans H; rw [hy203]; with_reducible exact H2_) | (have H2_ := (Option.bind_some _ _).symm.trans H; with_reducible exact H2_) | with_reducible exact H | (rw [hy203]; exact H) | exact H
    have Ny203 := Aside0.mk hy203
    clear hy203
    have H' := Aside0.mk H
    clear H
    have p201 : 0 ≤ (x11_1 : Int) := of_decide_eq_true (by first | (with_reducible assumption) | assumption)
    have q201 : x11_1 < (l0_5.length : Int) := of_decide_eq_true (by first | (with_reducible assumption) | assumption)
    obtain ⟨ad201, A201_1, c201_1, e201, hx201_0, hx201_1, hl201_1, hi201_1⟩ := at_T37 HR0_5.out x11_1 p201 q201
    cases e201
    replace hx201_0 := (HB.out.cell (World.block_lt_of_cell? w _ hx201_0)).trans hx201_0
    replace hx201_1 := (HB.out.cell (World.block_lt_of_cell? w _ hx201_1)).trans hx201_1
    have HR201_1 := Aside0.mk hi201_1
    have HC201_1 := Aside0.mk hl201_1
    clear hi201_1 hl201_1
    replace p201 := eq_true p201
    replace q201 := eq_true q201
    go_wp2_with (first | ((with_reducible refine gate_dst (N := 7) rfl ?_); refine box_event ?hg (N := 7) ?hd (cs := #[.int .i64 0, .slice none 0 0]) (t := 37) ?hr ?_; (case hd => rfl); (case hg => rfl); (case hr => first | (go_simp; done) | (go_simp; rfl)); intro gb202 hg w10 hbox hb; have n0_ := Aside0.mk (Kd.R_below (by exact rU HO_5.out) hb); have n1_ := Aside0.mk (blk_below (g := gb200) (o := .cells #[.string a0_0, .int .i64 a0_1, .int .i64 a0_2, .slice A0_3 l0_3.length c0_3, .slice A0_4 l0_4.length c0_4, .slice (some ad201) l0_5.length c0_5] 33 (0, 0)) (by (with_reducible repeat (first | refine blk_drewN ?_ _ | refine blk_drew ?_ | refine blk_alloc ?_ _)); exact BK200.out) hb); have n2_ := Aside0.mk (below_step (by exact wS HB.out GE200.out) hb); have n3_ := Aside0.mk (hbox); have n4_ := Aside0.mk ((by rw [hg]; exact (below_size (by exact wS HB.out GE200.out)) : w.heap.size ≤ gb202)); have n5_ := Aside0.mk ((by rw [hg]; exact (below_size (by exact wS HB.out GE200.out)) : w.heap.size ≤ gb202)); have n6_ := Aside0.mk ((by rw [hg]; exact Nat.ne_of_lt (blk_lt (g := gb200) (o := .cells #[.string a0_0, .int .i64 a0_1, .int .i64 a0_2, .slice A0_3 l0_3.length c0_3, .slice A0_4 l0_4.length c0_4, .slice (some ad201) l0_5.length c0_5] 33 (0, 0)) (by (with_reducible repeat (first | refine blk_drewN ?_ _ | refine blk_drew ?_ | refine blk_alloc ?_ _)); exact BK200.out)) : gb200 ≠ gb202)); have n7_ := Aside0.mk ((by rw [hg]; exact Nat.ne_of_gt (blk_lt (g := gb200) (o := .cells #[.string a0_0, .int .i64 a0_1, .int .i64 a0_2, .slice A0_3 l0_3.length c0_3, .slice A0_4 l0_4.length c0_4, .slice (some ad201) l0_5.length c0_5] 33 (0, 0)) (by (with_reducible repeat (first | refine blk_drewN ?_ _ | refine blk_drew ?_ | refine blk_alloc ?_ _)); exact BK200.out)) : gb202 ≠ gb200)); clear HO_5; clear BK200; clear HB; have HO_5 := n0_; have BK200 := n1_; have HB := n2_; have BK202 := n3_; have GW202 := n4_; have GE202 := n5_; have NB200_202 := n6_; have NB202_200 := n7_; clear n0_ n1_ n2_ n3_ n4_ n5_ n6_ n7_; clear hb hbox hg; have hnb11 := NB202_200.out; have hnc11 := NB200_202.out; have hcz12_0 : w10.cell? ⟨gb202, 0, none⟩ = some (.int .i64 0) := (blk_cell BK202.out 0).trans rfl; have hcz12_1 : w10.cell? ⟨gb202, 1, none⟩ = some (.slice none 0 0) := (blk_cell BK202.out 1).trans rfl; have hfz12_0 := blk_frozen BK202.out 0; have hfz12_1 := blk_frozen BK202.out 1) | ((with_reducible refine gate_builtin (b := .append) (xs := #[.tmp 20, .tmp 22]) rfl ?_); at_builtin; refine Kd.R_append (Kd.int .i64) (w0 := w) w.heap.size rfl (.tmp 20) (.tmp 22) 25 3 (.int .i64 0) 8 rfl Tryz.underlying25 info3 rfl (by decide) (by omega) u5 x5_1 x11_1 [.int .i64 x11_1] (fun _ => True) (fun _ => False) rfl (by first | (go_simp; done) | (go_simp; rfl)) ?aP (fun _ hk => hk.elim) ?aF ?aO ?aB ?aS ?aL ?_; (case aP => exact rfl); (case aB => exact (by exact wZ HB.out GE200.out GE202.out)); (case aF => exact (fun _ _ => trivial)); (case aO => exact (by exact rU (Kd.R_mono (Kd.R_far (p := ⟨gb202, 1, none⟩) (Kd.R_far (p := ⟨gb202, 0, none⟩) (Kd.R_types HO_5.out BK202.out (by decide)) (fun _ hk => hk.2) (.int .i64 ((rd_T37 l0_5 x11_1).f0))) (fun _ hk => hk.2) (.slice A201_1 ((rd_T37 l0_5 x11_1).f1).length c201_1)) (fun _ hk => trivial)))); (case aS => exact (below_size (by exact wZ HB.out GE200.out GE202.out))); (case aL => have := LMc9.out; omega); intro v204 w13 ho hb hg hat; rw [← Ny203.out] at ho; have n0_ := Aside0.mk (blk_grown (g := gb200) (o := .cells #[.string a0_0, .int .i64 a0_1, .int .i64 a0_2, .slice A0_3 l0_3.length c0_3, .slice A0_4 l0_4.length c0_4, .slice (some ad201) l0_5.length c0_5] 33 (0, 0)) (by (with_reducible repeat (first | refine blk_drewN ?_ _ | refine blk_drew ?_ | refine blk_alloc ?_ _)); refine blk_far ?_ NB200_202.out _; (with_reducible repeat (first | refine blk_drewN ?_ _ | refine blk_drew ?_ | refine blk_alloc ?_ _)); refine blk_far ?_ NB200_202.out _; (with_reducible repeat (first | refine blk_drewN ?_ _ | refine blk_drew ?_ | refine blk_alloc ?_ _)); exact BK200.out) hg (Kd.R_ne HO_5.out BK200.out (by decide))); have n1_ := Aside0.mk (blk_grown (g := gb202) (o := .cells #[.int .i64 ((rd_T37 l0_5 x11_1).f0), .slice A201_1 ((rd_T37 l0_5 x11_1).f1).length c201_1] 37 (0, 0)) (by (with_reducible repeat (first | refine blk_drewN ?_ _ | refine blk_drew ?_ | refine blk_alloc ?_ _)); refine blk_put (cs := #[.int .i64 ((rd_T37 l0_5 x11_1).f0), .slice none 0 0]) ?_ 1 _ rfl; (with_reducible repeat (first | refine blk_drewN ?_ _ | refine blk_drew ?_ | refine blk_alloc ?_ _)); refine blk_put (cs := #[.int .i64 0, .slice none 0 0]) ?_ 0 _ rfl; (with_reducible repeat (first | refine blk_drewN ?_ _ | refine blk_drew ?_ | refine blk_alloc ?_ _)); exact BK202.out) hg (Kd.R_ne HO_5.out BK202.out (by decide))); have n2_ := Aside0.mk (hb); have n3_ := Aside0.mk (ho); clear BK200; clear BK202; clear HB; clear HO_5; have BK200 := n0_; have BK202 := n1_; have HB := n2_; have HO205 := n3_; clear n0_ n1_ n2_ n3_; clear ho hb hg hat))
    go_roundg k1
    case measure => have := HK1.out; omega
    case rel => exact ⟨(y203), (wrap64 (x11_1 + 1)), (by first | rfl | (simp; done) | (simp [*]; done)), H', ⟨by have := HK1.out; omega⟩, ⟨by exact rU HO205.out⟩, ⟨by (with_reducible repeat (first | refine blk_drewN ?_ _ | refine blk_drew ?_ | refine blk_alloc ?_ _)); exact BK200.out⟩, ⟨by exact wZ HB.out GE200.out GE202.out⟩⟩
def interlocutorlaw11_known.f (k : Nat)  : Option (Bool) := (interlocutorlaw6_Locale.f k 0 0 0 0 ([] : List (S85)) false 1).bind fun bt209 => ((render_Write.f k bt209.1 bt209.2.1 bt209.2.2.1 bt209.2.2.2.1 bt209.2.2.2.2.1 bt209.2.2.2.2.2 0 4 (([2024, 2, 29] : List Int))).bind fun bt225 => ((render_Write.f k bt209.1 bt209.2.1 bt209.2.2.1 bt209.2.2.2.1 bt209.2.2.2.2.1 bt209.2.2.2.2.2 0 4 (([2023, 2, 29] : List Int))).bind fun bt230 => ((render_Write.f k bt209.1 bt209.2.1 bt209.2.2.1 bt209.2.2.2.1 bt209.2.2.2.2.1 bt209.2.2.2.2.2 99 0 ([] : List Int)).bind fun bt232 => ((render_Styles.f k bt209.1 bt209.2.1 bt209.2.2.1 bt209.2.2.2.1 bt209.2.2.2.2.1 bt209.2.2.2.2.2 4).bind fun t234 => ((render_Styles.f k (⟨#[]⟩ : ByteArray) 0 0 ([] : List (S89)) ([] : List (S110)) ([] : List (S37)) 4).bind fun t237 => (if (t237.length : Int) = 0 then (if bt225.2 = 0 then (if bt225.1.toList = ([50, 48, 50, 52, 45, 48, 50, 45, 50, 57] : List UInt8) then (if bt230.2 = 6 then (if bt232.2 = 7 then (if (t234.length : Int) = 2 then (if 0 < (t234.length : Int) then (some ((rd t234 0) == 0)) else (none)) else (some false)) else (some false)) else (some false)) else (some false)) else (some false)) else (some false)))))))
theorem interlocutorlaw11_known.mono : ∀ k, LeO (interlocutorlaw11_known.f k ) (interlocutorlaw11_known.f (k + 1) ) := by
  intro  k
  unfold interlocutorlaw11_known.f
  repeat' first
      | (with_reducible exact interlocutorlaw6_Locale.mono _ _ _ _ _ _ _ _)
      | (with_reducible exact render_Styles.mono _ _ _ _ _ _ _ _)
      | (with_reducible exact render_Write.mono _ _ _ _ _ _ _ _ _ _)
      | (with_reducible exact LeO.refl _)
      | (with_reducible exact LeO.none _)
      | (with_reducible refine LeO.ite ?_ ?_)
      | (with_reducible refine LeO.bind ?_ (fun _ => ?_))
      | exact interlocutorlaw6_Locale.mono _ _ _ _ _ _ _ _
      | exact render_Styles.mono _ _ _ _ _ _ _ _
      | exact render_Write.mono _ _ _ _ _ _ _ _ _ _
      | exact LeO.none _
      | refine LeO.ite ?_ ?_
      | refine LeO.bind ?_ (fun _ => ?_)
theorem interlocutorlaw11_known.ok_ : interlocutorlaw11_known.f 60 = some true := by decide +kernel
theorem interlocutorlaw11_known.true_ (k : Nat) (r : Bool) (h : interlocutorlaw11_known.f k = some r) : r = true := by
  have h1 := at_rounds (fun k => interlocutorlaw11_known.mono k) (Nat.le_max_left k 60) h
  have h2 := at_rounds (fun k => interlocutorlaw11_known.mono k) (Nat.le_max_right k 60) interlocutorlaw11_known.ok_
  rw [h1] at h2
  exact Option.some.inj h2
set_option maxHeartbeats 8000000 in
set_option maxRecDepth 100000 in
theorem interlocutorlaw11_known.calls (k : Nat)  (r : Bool) (w : World) (h : interlocutorlaw11_known.f k  = some r) (hT_ : TabOK w) :
    Calls Tryz.prog 9 #[] w fun e w' => e = .returned (.bool r) ∧ Below w.heap.size w w' := by
  have HRT := Aside0.mk (interlocutorlaw11_known.true_ k r h)
  have HTB_ := Aside0.mk hT_
  clear hT_
  have hu24 := Tryz.underlying24
  have hu33 := Tryz.underlying33
  have hu27 := Tryz.underlying27
  have HB := Aside0.mk (Below.refl w.heap.size w)
  have H : ((interlocutorlaw6_Locale.f k 0 0 0 0 ([] : List (S85)) false 1).bind fun bt209 => ((render_Write.f k bt209.1 bt209.2.1 bt209.2.2.1 bt209.2.2.2.1 bt209.2.2.2.2.1 bt209.2.2.2.2.2 0 4 (([2024, 2, 29] : List Int))).bind fun bt225 => ((render_Write.f k bt209.1 bt209.2.1 bt209.2.2.1 bt209.2.2.2.1 bt209.2.2.2.2.1 bt209.2.2.2.2.2 0 4 (([2023, 2, 29] : List Int))).bind fun bt230 => ((render_Write.f k bt209.1 bt209.2.1 bt209.2.2.1 bt209.2.2.2.1 bt209.2.2.2.2.1 bt209.2.2.2.2.2 99 0 ([] : List Int)).bind fun bt232 => ((render_Styles.f k bt209.1 bt209.2.1 bt209.2.2.1 bt209.2.2.2.1 bt209.2.2.2.2.1 bt209.2.2.2.2.2 4).bind fun t234 => ((render_Styles.f k (⟨#[]⟩ : ByteArray) 0 0 ([] : List (S89)) ([] : List (S110)) ([] : List (S37)) 4).bind fun t237 => (if (t237.length : Int) = 0 then (if bt225.2 = 0 then (if bt225.1.toList = ([50, 48, 50, 52, 45, 48, 50, 45, 50, 57] : List UInt8) then (if bt230.2 = 6 then (if bt232.2 = 7 then (if (t234.length : Int) = 2 then (if 0 < (t234.length : Int) then (some ((rd t234 0) == 0)) else (none)) else (some false)) else (some false)) else (some false)) else (some false)) else (some false)) else (some false)))))))) = some r := h
  clear h
  replace H := Option.bind_eq_some_iff.mp H
  obtain ⟨⟨t209, t210, t211, t212, t215, t218⟩, A10, H⟩ := H
  replace H : ((render_Write.f k t209 t210 t211 t212 t215 t218 0 4 (([2024, 2, 29] : List Int))).bind fun bt225 => ((render_Write.f k t209 t210 t211 t212 t215 t218 0 4 (([2023, 2, 29] : List Int))).bind fun bt230 => ((render_Write.f k t209 t210 t211 t212 t215 t218 99 0 ([] : List Int)).bind fun bt232 => ((render_Styles.f k t209 t210 t211 t212 t215 t218 4).bind fun t234 => ((render_Styles.f k (⟨#[]⟩ : ByteArray) 0 0 ([] : List (S89)) ([] : List (S110)) ([] : List (S37)) 4).bind fun t237 => (if (t237.length : Int) = 0 then (if bt225.2 = 0 then (if bt225.1.toList = ([50, 48, 50, 52, 45, 48, 50, 45, 50, 57] : List UInt8) then (if bt230.2 = 6 then (if bt232.2 = 7 then (if (t234.length : Int) = 2 then (if 0 < (t234.length : Int) then (some ((rd t234 0) == 0)) else (none)) else (some false)) else (some false)) else (some false)) else (some false)) else (some false)) else (some false))))))) = some r := H
  have A1 := Aside0.mk A10
  clear A10
  obtain ⟨y222, hy222⟩ : ∃ y_ : List Int, y_ = (([2024, 2, 29] : List Int)) := ⟨_, rfl⟩
  replace H : ((render_Write.f k t209 t210 t211 t212 t215 t218 0 4 y222).bind fun bt225 => ((render_Write.f k t209 t210 t211 t212 t215 t218 0 4 (([2023, 2, 29] : List Int))).bind fun bt230 => ((render_Write.f k t209 t210 t211 t212 t215 t218 99 0 ([] : List Int)).bind fun bt232 => ((render_Styles.f k t209 t210 t211 t212 t215 t218 4).bind fun t234 => ((render_Styles.f k (⟨#[]⟩ : ByteArray) 0 0 ([] : List (S89)) ([] : List (S110)) ([] : List (S37)) 4).bind fun t237 => (if (t237.length : Int) = 0 then (if bt225.2 = 0 then (if bt225.1.toList = ([50, 48, 50, 52, 45, 48, 50, 45, 50, 57] : List UInt8) then (if bt230.2 = 6 then (if bt232.2 = 7 then (if (t234.length : Int) = 2 then (if 0 < (t234.length : Int) then (some ((rd t234 0) == 0)) else (none)) else (some false)) else (some false)) else (some false)) else (some false)) else (some false)) else (some false))))))) = some r := by first | (rw [hy222]; with_reducible exact H) | (have H2_ := (Option.bind_some _ _).symm.trans H; rw [hy222]; with_reducible exact H2_) | (have H2_ := (Option.bind_some _ _).symm.trans H; with_reducible exact H2_) | with_reducible exact H | (rw [hy222]; exact H) | exact H
  have Ny222 := Aside0.mk hy222
  clear hy222
  replace H := Option.bind_eq_some_iff.mp H
  obtain ⟨⟨t225, t226⟩, A20, H⟩ := H
  replace H : ((render_Write.f k t209 t210 t211 t212 t215 t218 0 4 (([2023, 2, 29] : List Int))).bind fun bt230 => ((render_Write.f k t209 t210 t211 t212 t215 t218 99 0 ([] : List Int)).bind fun bt232 => ((render_Styles.f k t209 t210 t211 t212 t215 t218 4).bind fun t234 => ((render_Styles.f k (⟨#[]⟩ : ByteArray) 0 0 ([] : List (S89)) ([] : List (S110)) ([] : List (S37)) 4).bind fun t237 => (if (t237.length : Int) = 0 then (if t226 = 0 then (if t225.toList = ([50, 48, 50, 52, 45, 48, 50, 45, 50, 57] : List UInt8) then (if bt230.2 = 6 then (if bt232.2 = 7 then (if (t234.length : Int) = 2 then (if 0 < (t234.length : Int) then (some ((rd t234 0) == 0)) else (none)) else (some false)) else (some false)) else (some false)) else (some false)) else (some false)) else (some false)))))) = some r := H
  have A2 := Aside0.mk A20
  clear A20
  obtain ⟨y227, hy227⟩ : ∃ y_ : List Int, y_ = (([2023, 2, 29] : List Int)) := ⟨_, rfl⟩
  replace H : ((render_Write.f k t209 t210 t211 t212 t215 t218 0 4 y227).bind fun bt230 => ((render_Write.f k t209 t210 t211 t212 t215 t218 99 0 ([] : List Int)).bind fun bt232 => ((render_Styles.f k t209 t210 t211 t212 t215 t218 4).bind fun t234 => ((render_Styles.f k (⟨#[]⟩ : ByteArray) 0 0 ([] : List (S89)) ([] : List (S110)) ([] : List (S37)) 4).bind fun t237 => (if (t237.length : Int) = 0 then (if t226 = 0 then (if t225.toList = ([50, 48, 50, 52, 45, 48, 50, 45, 50, 57] : List UInt8) then (if bt230.2 = 6 then (if bt232.2 = 7 then (if (t234.length : Int) = 2 then (if 0 < (t234.length : Int) then (some ((rd t234 0) == 0)) else (none)) else (some false)) else (some false)) else (some false)) else (some false)) else (some false)) else (some false)))))) = some r := by first | (rw [hy227]; with_reducible exact H) | (have H2_ := (Option.bind_some _ _).symm.trans H; rw [hy227]; with_reducible exact H2_) | (have H2_ := (Option.bind_some _ _).symm.trans H; with_reducible exact H2_) | with_reducible exact H | (rw [hy227]; exact H) | exact H
  have Ny227 := Aside0.mk hy227
  clear hy227
  replace H := Option.bind_eq_some_iff.mp H
  obtain ⟨⟨t230, t231⟩, A30, H⟩ := H
  replace H : ((render_Write.f k t209 t210 t211 t212 t215 t218 99 0 ([] : List Int)).bind fun bt232 => ((render_Styles.f k t209 t210 t211 t212 t215 t218 4).bind fun t234 => ((render_Styles.f k (⟨#[]⟩ : ByteArray) 0 0 ([] : List (S89)) ([] : List (S110)) ([] : List (S37)) 4).bind fun t237 => (if (t237.length : Int) = 0 then (if t226 = 0 then (if t225.toList = ([50, 48, 50, 52, 45, 48, 50, 45, 50, 57] : List UInt8) then (if t231 = 6 then (if bt232.2 = 7 then (if (t234.length : Int) = 2 then (if 0 < (t234.length : Int) then (some ((rd t234 0) == 0)) else (none)) else (some false)) else (some false)) else (some false)) else (some false)) else (some false)) else (some false))))) = some r := H
  have A3 := Aside0.mk A30
  clear A30
  replace H := Option.bind_eq_some_iff.mp H
  obtain ⟨⟨t232, t233⟩, A40, H⟩ := H
  replace H : ((render_Styles.f k t209 t210 t211 t212 t215 t218 4).bind fun t234 => ((render_Styles.f k (⟨#[]⟩ : ByteArray) 0 0 ([] : List (S89)) ([] : List (S110)) ([] : List (S37)) 4).bind fun t237 => (if (t237.length : Int) = 0 then (if t226 = 0 then (if t225.toList = ([50, 48, 50, 52, 45, 48, 50, 45, 50, 57] : List UInt8) then (if t231 = 6 then (if t233 = 7 then (if (t234.length : Int) = 2 then (if 0 < (t234.length : Int) then (some ((rd t234 0) == 0)) else (none)) else (some false)) else (some false)) else (some false)) else (some false)) else (some false)) else (some false)))) = some r := H
  have A4 := Aside0.mk A40
  clear A40
  replace H := Option.bind_eq_some_iff.mp H
  obtain ⟨t234, A50, H⟩ := H
  replace H : ((render_Styles.f k (⟨#[]⟩ : ByteArray) 0 0 ([] : List (S89)) ([] : List (S110)) ([] : List (S37)) 4).bind fun t237 => (if (t237.length : Int) = 0 then (if t226 = 0 then (if t225.toList = ([50, 48, 50, 52, 45, 48, 50, 45, 50, 57] : List UInt8) then (if t231 = 6 then (if t233 = 7 then (if (t234.length : Int) = 2 then (if 0 < (t234.length : Int) then (some ((rd t234 0) == 0)) else (none)) else (some false)) else (some false)) else (some false)) else (some false)) else (some false)) else (some false))) = some r := H
  have A5 := Aside0.mk A50
  clear A50
  replace H := Option.bind_eq_some_iff.mp H
  obtain ⟨t237, A60, H⟩ := H
  replace H : (if (t237.length : Int) = 0 then (if t226 = 0 then (if t225.toList = ([50, 48, 50, 52, 45, 48, 50, 45, 50, 57] : List UInt8) then (if t231 = 6 then (if t233 = 7 then (if (t234.length : Int) = 2 then (if 0 < (t234.length : Int) then (some ((rd t234 0) == 0)) else (none)) else (some false)) else (some false)) else (some false)) else (some false)) else (some false)) else (some false)) = some r := H
  have A6 := Aside0.mk A60
  clear A60
  by_cases c7 : (t237.length : Int) = 0
  rotate_left
  · rw [if_neg c7] at H
    have c7b0 : ((t237.length : Int) == 0) = false := beq_eq_false_iff_ne.mpr c7
    have c7b1 : ((t237.length : Int) != 0) = true := bne_iff_ne.mpr c7
    have c7b2 : ¬ (t237 = []) := fun h_ => c7 (by rw [h_]; rfl)
    exact absurd ((Option.some.inj H).trans HRT.out) (by decide)
  rw [if_pos c7] at H
  have c7b0 : ((t237.length : Int) == 0) = true := beq_iff_eq.mpr c7
  have c7b1 : ((t237.length : Int) != 0) = false := bne_eq_false_iff_eq.mpr c7
  clear c7
  by_cases c8 : t226 = 0
  rotate_left
  · rw [if_neg c8] at H
    have c8b0 : (t226 == 0) = false := beq_eq_false_iff_ne.mpr c8
    have c8b1 : (t226 != 0) = true := bne_iff_ne.mpr c8
    exact absurd ((Option.some.inj H).trans HRT.out) (by decide)
  rw [if_pos c8] at H
  have c8b0 : (t226 == 0) = true := beq_iff_eq.mpr c8
  have c8b1 : (t226 != 0) = false := bne_eq_false_iff_eq.mpr c8
  clear c8
  by_cases c9 : t225.toList = ([50, 48, 50, 52, 45, 48, 50, 45, 50, 57] : List UInt8)
  rotate_left
  · rw [if_neg c9] at H
    have c9b0 : (t225.toList == ([50, 48, 50, 52, 45, 48, 50, 45, 50, 57] : List UInt8)) = false := beq_eq_false_iff_ne.mpr c9
    have c9b1 : (t225.toList != ([50, 48, 50, 52, 45, 48, 50, 45, 50, 57] : List UInt8)) = true := bne_iff_ne.mpr c9
    exact absurd ((Option.some.inj H).trans HRT.out) (by decide)
  rw [if_pos c9] at H
  have c9b0 : (t225.toList == ([50, 48, 50, 52, 45, 48, 50, 45, 50, 57] : List UInt8)) = true := beq_iff_eq.mpr c9
  have c9b1 : (t225.toList != ([50, 48, 50, 52, 45, 48, 50, 45, 50, 57] : List UInt8)) = false := bne_eq_false_iff_eq.mpr c9
  clear c9
  by_cases c10 : t231 = 6
  rotate_left
  · rw [if_neg c10] at H
    have c10b0 : (t231 == 6) = false := beq_eq_false_iff_ne.mpr c10
    have c10b1 : (t231 != 6) = true := bne_iff_ne.mpr c10
    exact absurd ((Option.some.inj H).trans HRT.out) (by decide)
  rw [if_pos c10] at H
  have c10b0 : (t231 == 6) = true := beq_iff_eq.mpr c10
  have c10b1 : (t231 != 6) = false := bne_eq_false_iff_eq.mpr c10
  clear c10
  by_cases c11 : t233 = 7
  rotate_left
  · rw [if_neg c11] at H
    have c11b0 : (t233 == 7) = false := beq_eq_false_iff_ne.mpr c11
    have c11b1 : (t233 != 7) = true := bne_iff_ne.mpr c11
    exact absurd ((Option.some.inj H).trans HRT.out) (by decide)
  rw [if_pos c11] at H
  have c11b0 : (t233 == 7) = true := beq_iff_eq.mpr c11
  have c11b1 : (t233 != 7) = false := bne_eq_false_iff_eq.mpr c11
  clear c11
  by_cases c12 : (t234.length : Int) = 2
  rotate_left
  · rw [if_neg c12] at H
    have c12b0 : ((t234.length : Int) == 2) = false := beq_eq_false_iff_ne.mpr c12
    have c12b1 : ((t234.length : Int) != 2) = true := bne_iff_ne.mpr c12
    exact absurd ((Option.some.inj H).trans HRT.out) (by decide)
  rw [if_pos c12] at H
  have c12b0 : ((t234.length : Int) == 2) = true := beq_iff_eq.mpr c12
  have c12b1 : ((t234.length : Int) != 2) = false := bne_eq_false_iff_eq.mpr c12
  clear c12
  by_cases c13 : 0 < (t234.length : Int)
  rotate_left
  · rw [if_neg c13] at H
    exact absurd H (by simp)
  rw [if_pos c13] at H
  have c13b0 : decide (0 < (t234.length : Int)) = true := decide_eq_true c13
  have c13b1 : decide (0 < t234.length) = true := decide_eq_true (by omega)
  clear c13
  obtain rfl := Option.some.inj H
  go_enter Tryz.func9, Tryz.ntmps9
  go_wp2_with (first | ((with_reducible refine gate_callee (f := 11) rfl ?_); refine goesL_ (some 10) rfl rfl Tryz.func11 (by kernel_rfl) rfl #[.agg #[.int .i64 0, .int .i64 0, .int .i64 0, .int .i64 0, .slice none 0 0, .bool false], .int .i64 1] rfl (by (try simp only [List.map_toArray, List.map_cons, List.map_nil]); first | done | rfl | (simp only [List.length_drop, List.length_take]; rfl)) ?_; (refine (interlocutorlaw6_Locale.calls k 0 0 0 0 _ _ ([] : List (S85)) false 1 t209 t210 t211 t212 t215 t218 _ ?side1 ?side2 A1.out).mono ?_); (case side1 => exact Kd.C_nil _ _); (case side2 => exact Nat.le_refl _); rintro e w14 ⟨v213, v216, v219, rfl, ho0, ho1, ho2, hb⟩; refine ⟨_, rfl, ?_⟩; have n0_ := Aside0.mk (Kd.V_lower (Kd.V_mono (ok' := fun k_ => True) ho0 (fun k_ hk_ => trivial)) (below_size (by exact wU HB.out))); have n1_ := Aside0.mk (Kd.V_lower (Kd.V_mono (ok' := fun k_ => True) ho1 (fun k_ hk_ => trivial)) (below_size (by exact wU HB.out))); have n2_ := Aside0.mk (Kd.V_lower (Kd.V_mono (ok' := fun k_ => True) ho2 (fun k_ hk_ => trivial)) (below_size (by exact wU HB.out))); have n3_ := Aside0.mk (below_step (by exact wU HB.out) hb); clear HB; have HO214 := n0_; have HO217 := n1_; have HO220 := n2_; have HB := n3_; clear n0_ n1_ n2_ n3_; (try clear hb); (try clear hb2); (try clear hk); (try clear hi); (try clear ho0); (try clear ho1); (try clear ho2)) | ((with_reducible refine gate_dst (N := 1) rfl ?_); (try (refine gate_guard (by rfl) ?_; dsimp only)); refine box_event ?hg (N := 1) ?hd (cs := #[.string (⟨#[]⟩ : ByteArray), .int .i64 0, .int .i64 0, .slice none 0 0, .slice none 0 0, .slice none 0 0]) (t := 33) ?hr ?_; (case hd => rfl); (case hg => rfl); (case hr => first | (go_simp; done) | (go_simp; rfl)); intro gb221 hg w15 hbox hb; have n0_ := Aside0.mk (Kd.V_below (Kd.V_elderB (by exact vU HO214.out) gb221 (Nat.le_of_eq hg.symm)) hb); have n1_ := Aside0.mk (Kd.V_below (Kd.V_elderB (by exact vU HO217.out) gb221 (Nat.le_of_eq hg.symm)) hb); have n2_ := Aside0.mk (Kd.V_below (Kd.V_elderB (by exact vU HO220.out) gb221 (Nat.le_of_eq hg.symm)) hb); have n3_ := Aside0.mk (below_step (by exact wU HB.out) hb); have n4_ := Aside0.mk (hbox); have n5_ := Aside0.mk ((by rw [hg]; exact (below_size (by exact wU HB.out)) : w.heap.size ≤ gb221)); have n6_ := Aside0.mk ((by rw [hg]; exact (below_size (by exact wU HB.out)) : w.heap.size ≤ gb221)); clear HO214; clear HO217; clear HO220; clear HB; have HO214 := n0_; have HO217 := n1_; have HO220 := n2_; have HB := n3_; have BK221 := n4_; have GW221 := n5_; have GE221 := n6_; clear n0_ n1_ n2_ n3_ n4_ n5_ n6_; clear hb hbox hg; have hcz16_0 : w15.cell? ⟨gb221, 0, none⟩ = some (.string (⟨#[]⟩ : ByteArray)) := (blk_cell BK221.out 0).trans rfl; have hcz16_1 : w15.cell? ⟨gb221, 1, none⟩ = some (.int .i64 0) := (blk_cell BK221.out 1).trans rfl; have hcz16_2 : w15.cell? ⟨gb221, 2, none⟩ = some (.int .i64 0) := (blk_cell BK221.out 2).trans rfl; have hcz16_3 : w15.cell? ⟨gb221, 3, none⟩ = some (.slice none 0 0) := (blk_cell BK221.out 3).trans rfl; have hcz16_4 : w15.cell? ⟨gb221, 4, none⟩ = some (.slice none 0 0) := (blk_cell BK221.out 4).trans rfl; have hcz16_5 : w15.cell? ⟨gb221, 5, none⟩ = some (.slice none 0 0) := (blk_cell BK221.out 5).trans rfl; have hfz16_0 := blk_frozen BK221.out 0; have hfz16_1 := blk_frozen BK221.out 1; have hfz16_2 := blk_frozen BK221.out 2; have hfz16_3 := blk_frozen BK221.out 3; have hfz16_4 := blk_frozen BK221.out 4; have hfz16_5 := blk_frozen BK221.out 5; obtain ⟨Ao17, co17, eo17⟩ := Kd.V_slice HO214.out; subst eo17; obtain ⟨Ao18, co18, eo18⟩ := Kd.V_slice HO217.out; subst eo18; obtain ⟨Ao19, co19, eo19⟩ := Kd.V_slice HO220.out; subst eo19) | ((with_reducible refine gate_dst (N := 13) rfl ?_); (try (refine gate_guard (by rfl) ?_; dsimp only)); refine Kd.R_lit (Kd.int .i64) _ 3 ?hg (N := 13) ?hd (xs := ([2024, 2, 29] : List Int)) (inner := [.int .i64 2024, .int .i64 2, .int .i64 29]) (ok := fun _ => True) (okp := fun _ => True) ?hr ?hp (fun _ hk => hk) trivial (Below.refl _ _) (Nat.le_refl _) (by simp) ?_; (case hd => rfl); (case hg => rfl); (case hr => first | (go_simp; done) | (go_simp; rfl)); (case hp => exact (Reps.one (show Kd.M (Kd.int .i64) _ _ _ 2024 [.int .i64 2024] from rfl) (Reps.one (show Kd.M (Kd.int .i64) _ _ _ 2 [.int .i64 2] from rfl) (Reps.one (show Kd.M (Kd.int .i64) _ _ _ 29 [.int .i64 29] from rfl) (Reps.none _ _))))); intro v223 w20 ho21 hb hg_ hnew_; clear hg_ hnew_; (first | rw [← Ny222.out] at ho21 | (simp only [Int.reduceToNat] at ho21; rw [← Ny222.out] at ho21)); have n0_ := Aside0.mk (Kd.V_elder' (by exact vU ((Kd.V_mono (Kd.V_far (p := ⟨gb221, 5, none⟩) (Kd.V_far (p := ⟨gb221, 4, none⟩) (Kd.V_far (p := ⟨gb221, 3, none⟩) (Kd.V_far (p := ⟨gb221, 2, none⟩) (Kd.V_far (p := ⟨gb221, 1, none⟩) (Kd.V_far (p := ⟨gb221, 0, none⟩) (Kd.V_mono HO214.out (fun k_ hk => (⟨hk, hk.2⟩ : _ ∧ k_ ≠ gb221))) (fun _ hk => hk.2) (.string t209)) (fun _ hk => hk.2) (.int .i64 t210)) (fun _ hk => hk.2) (.int .i64 t211)) (fun _ hk => hk.2) (.slice Ao17 t212.length co17)) (fun _ hk => hk.2) (.slice Ao18 t215.length co18)) (fun _ hk => hk.2) (.slice Ao19 t218.length co19)) (fun _ h_ => h_.1)))) (Kd.R_base ho21) hb); have n1_ := Aside0.mk (Kd.V_elder' (by exact vU ((Kd.V_mono (Kd.V_far (p := ⟨gb221, 5, none⟩) (Kd.V_far (p := ⟨gb221, 4, none⟩) (Kd.V_far (p := ⟨gb221, 3, none⟩) (Kd.V_far (p := ⟨gb221, 2, none⟩) (Kd.V_far (p := ⟨gb221, 1, none⟩) (Kd.V_far (p := ⟨gb221, 0, none⟩) (Kd.V_mono HO217.out (fun k_ hk => (⟨hk, hk.2⟩ : _ ∧ k_ ≠ gb221))) (fun _ hk => hk.2) (.string t209)) (fun _ hk => hk.2) (.int .i64 t210)) (fun _ hk => hk.2) (.int .i64 t211)) (fun _ hk => hk.2) (.slice Ao17 t212.length co17)) (fun _ hk => hk.2) (.slice Ao18 t215.length co18)) (fun _ hk => hk.2) (.slice Ao19 t218.length co19)) (fun _ h_ => h_.1)))) (Kd.R_base ho21) hb); have n2_ := Aside0.mk (Kd.V_elder' (by exact vU ((Kd.V_mono (Kd.V_far (p := ⟨gb221, 5, none⟩) (Kd.V_far (p := ⟨gb221, 4, none⟩) (Kd.V_far (p := ⟨gb221, 3, none⟩) (Kd.V_far (p := ⟨gb221, 2, none⟩) (Kd.V_far (p := ⟨gb221, 1, none⟩) (Kd.V_far (p := ⟨gb221, 0, none⟩) (Kd.V_mono HO220.out (fun k_ hk => (⟨hk, hk.2⟩ : _ ∧ k_ ≠ gb221))) (fun _ hk => hk.2) (.string t209)) (fun _ hk => hk.2) (.int .i64 t210)) (fun _ hk => hk.2) (.int .i64 t211)) (fun _ hk => hk.2) (.slice Ao17 t212.length co17)) (fun _ hk => hk.2) (.slice Ao18 t215.length co18)) (fun _ hk => hk.2) (.slice Ao19 t218.length co19)) (fun _ h_ => h_.1)))) (Kd.R_base ho21) hb); have n3_ := Aside0.mk (Kd.R_lower ho21 (below_size (by exact wS HB.out GE221.out))); have n4_ := Aside0.mk (blk_below (g := gb221) (o := .cells #[.string t209, .int .i64 t210, .int .i64 t211, .slice Ao17 t212.length co17, .slice Ao18 t215.length co18, .slice Ao19 t218.length co19] 33 (0, 0)) (by (with_reducible repeat (first | refine blk_drewN ?_ _ | refine blk_drew ?_ | refine blk_alloc ?_ _)); refine blk_put (cs := #[.string t209, .int .i64 t210, .int .i64 t211, .slice Ao17 t212.length co17, .slice Ao18 t215.length co18, .slice none 0 0]) ?_ 5 _ rfl; (with_reducible repeat (first | refine blk_drewN ?_ _ | refine blk_drew ?_ | refine blk_alloc ?_ _)); refine blk_put (cs := #[.string t209, .int .i64 t210, .int .i64 t211, .slice Ao17 t212.length co17, .slice none 0 0, .slice none 0 0]) ?_ 4 _ rfl; (with_reducible repeat (first | refine blk_drewN ?_ _ | refine blk_drew ?_ | refine blk_alloc ?_ _)); refine blk_put (cs := #[.string t209, .int .i64 t210, .int .i64 t211, .slice none 0 0, .slice none 0 0, .slice none 0 0]) ?_ 3 _ rfl; (with_reducible repeat (first | refine blk_drewN ?_ _ | refine blk_drew ?_ | refine blk_alloc ?_ _)); refine blk_put (cs := #[.string t209, .int .i64 t210, .int .i64 0, .slice none 0 0, .slice none 0 0, .slice none 0 0]) ?_ 2 _ rfl; (with_reducible repeat (first | refine blk_drewN ?_ _ | refine blk_drew ?_ | refine blk_alloc ?_ _)); refine blk_put (cs := #[.string t209, .int .i64 0, .int .i64 0, .slice none 0 0, .slice none 0 0, .slice none 0 0]) ?_ 1 _ rfl; (with_reducible repeat (first | refine blk_drewN ?_ _ | refine blk_drew ?_ | refine blk_alloc ?_ _)); refine blk_put (cs := #[.string (⟨#[]⟩ : ByteArray), .int .i64 0, .int .i64 0, .slice none 0 0, .slice none 0 0, .slice none 0 0]) ?_ 0 _ rfl; (with_reducible repeat (first | refine blk_drewN ?_ _ | refine blk_drew ?_ | refine blk_alloc ?_ _)); exact BK221.out) hb); have n5_ := Aside0.mk (below_step (by exact wS HB.out GE221.out) hb); clear HO214; clear HO217; clear HO220; clear BK221; clear HB; have HO214 := n0_; have HO217 := n1_; have HO220 := n2_; have HO224 := n3_; have BK221 := n4_; have HB := n5_; clear n0_ n1_ n2_ n3_ n4_ n5_; clear hb ho21; obtain ⟨Ao22, co22, eo22⟩ := Kd.R_slice HO224.out; subst eo22) | ((with_reducible refine gate_callee (f := 14) rfl ?_); refine goesL_ (some 15) rfl rfl Tryz.func14 (by kernel_rfl) rfl #[.agg #[.string t209, .int .i64 t210, .int .i64 t211, .slice Ao17 t212.length co17, .slice Ao18 t215.length co18, .slice Ao19 t218.length co19], .int .i64 0, .agg #[.int .i64 4, .slice Ao22 y222.length co22]] rfl (by (try simp only [List.map_toArray, List.map_cons, List.map_nil]); first | done | rfl | (simp only [List.length_drop, List.length_take]; rfl)) ?_; (with_reducible refine (render_Write.calls k t209 t210 t211 _ _ t212 _ _ t215 _ _ t218 0 4 _ _ y222 t225 t226 _ ?side1 ?side2 ?side3 ?side4 ?side5 ?side6 ?side7 ?side8 A2.out ?hT_).mono ?_); (case hT_ => first | exact HTB_.out | exact tab_below HTB_.out (by repeat (first | (with_reducible first | exact HB.out | apply below_alloc | apply pw_below_drewN | apply below_drew1 | refine below_set ?_ (Aside0.out ‹_›)) | exact HB.out))); (case side1 => repeat (first | exact (Kd.V_reads' HO214.out).2.2 | (with_reducible refine Kd.C_alloc ?_ _) | (with_reducible refine Kd.C_drewN ?_ _) | (with_reducible refine Kd.C_drew ?_))); (case side2 => exact (Kd.V_reads' HO214.out).2.1); (case side3 => repeat (first | exact (Kd.V_reads' HO217.out).2.2 | (with_reducible refine Kd.C_alloc ?_ _) | (with_reducible refine Kd.C_drewN ?_ _) | (with_reducible refine Kd.C_drew ?_))); (case side4 => exact (Kd.V_reads' HO217.out).2.1); (case side5 => repeat (first | exact (Kd.V_reads' HO220.out).2.2 | (with_reducible refine Kd.C_alloc ?_ _) | (with_reducible refine Kd.C_drewN ?_ _) | (with_reducible refine Kd.C_drew ?_))); (case side6 => exact (Kd.V_reads' HO220.out).2.1); (case side7 => repeat (first | exact (Kd.R_reads' HO224.out).2.2 | (with_reducible refine Kd.C_alloc ?_ _) | (with_reducible refine Kd.C_drewN ?_ _) | (with_reducible refine Kd.C_drew ?_))); (case side8 => exact (Kd.R_reads' HO224.out).2.1); rintro e w23 ⟨rfl, hb⟩; refine ⟨_, rfl, ?_⟩; have n0_ := Aside0.mk (Kd.V_below (by exact vU HO214.out) hb); have n1_ := Aside0.mk (Kd.V_below (by exact vU HO217.out) hb); have n2_ := Aside0.mk (Kd.V_below (by exact vU HO220.out) hb); have n3_ := Aside0.mk (Kd.R_below (by exact rU HO224.out) hb); have n4_ := Aside0.mk (blk_below (g := gb221) (o := .cells #[.string t209, .int .i64 t210, .int .i64 t211, .slice Ao17 t212.length co17, .slice Ao18 t215.length co18, .slice Ao19 t218.length co19] 33 (0, 0)) (by (with_reducible repeat (first | refine blk_drewN ?_ _ | refine blk_drew ?_ | refine blk_alloc ?_ _)); exact BK221.out) hb); have n5_ := Aside0.mk (below_step (by exact wS HB.out GE221.out) hb); clear HO214; clear HO217; clear HO220; clear HO224; clear BK221; clear HB; have HO214 := n0_; have HO217 := n1_; have HO220 := n2_; have HO224 := n3_; have BK221 := n4_; have HB := n5_; clear n0_ n1_ n2_ n3_ n4_ n5_; (try clear hb); (try clear hb2); (try clear hk); (try clear hi); have hcz24_0 : w23.cell? ⟨gb221, 0, none⟩ = some (.string t209) := (blk_cell BK221.out 0).trans rfl; have hcz24_1 : w23.cell? ⟨gb221, 1, none⟩ = some (.int .i64 t210) := (blk_cell BK221.out 1).trans rfl; have hcz24_2 : w23.cell? ⟨gb221, 2, none⟩ = some (.int .i64 t211) := (blk_cell BK221.out 2).trans rfl; have hcz24_3 : w23.cell? ⟨gb221, 3, none⟩ = some (.slice Ao17 t212.length co17) := (blk_cell BK221.out 3).trans rfl; have hcz24_4 : w23.cell? ⟨gb221, 4, none⟩ = some (.slice Ao18 t215.length co18) := (blk_cell BK221.out 4).trans rfl; have hcz24_5 : w23.cell? ⟨gb221, 5, none⟩ = some (.slice Ao19 t218.length co19) := (blk_cell BK221.out 5).trans rfl; have hfz24_0 := blk_frozen BK221.out 0; have hfz24_1 := blk_frozen BK221.out 1; have hfz24_2 := blk_frozen BK221.out 2; have hfz24_3 := blk_frozen BK221.out 3; have hfz24_4 := blk_frozen BK221.out 4; have hfz24_5 := blk_frozen BK221.out 5) | ((with_reducible refine gate_dst (N := 20) rfl ?_); (try (refine gate_guard (by rfl) ?_; dsimp only)); refine Kd.R_lit (Kd.int .i64) _ 3 ?hg (N := 20) ?hd (xs := ([2023, 2, 29] : List Int)) (inner := [.int .i64 2023, .int .i64 2, .int .i64 29]) (ok := fun _ => True) (okp := fun _ => True) ?hr ?hp (fun _ hk => hk) trivial (Below.refl _ _) (Nat.le_refl _) (by simp) ?_; (case hd => rfl); (case hg => rfl); (case hr => first | (go_simp; done) | (go_simp; rfl)); (case hp => exact (Reps.one (show Kd.M (Kd.int .i64) _ _ _ 2023 [.int .i64 2023] from rfl) (Reps.one (show Kd.M (Kd.int .i64) _ _ _ 2 [.int .i64 2] from rfl) (Reps.one (show Kd.M (Kd.int .i64) _ _ _ 29 [.int .i64 29] from rfl) (Reps.none _ _))))); intro v228 w25 ho26 hb hg_ hnew_; clear hg_ hnew_; (first | rw [← Ny227.out] at ho26 | (simp only [Int.reduceToNat] at ho26; rw [← Ny227.out] at ho26)); have n0_ := Aside0.mk (Kd.V_elder' (by exact vU HO214.out) (Kd.R_base ho26) hb); have n1_ := Aside0.mk (Kd.V_elder' (by exact vU HO217.out) (Kd.R_base ho26) hb); have n2_ := Aside0.mk (Kd.V_elder' (by exact vU HO220.out) (Kd.R_base ho26) hb); have n3_ := Aside0.mk (Kd.R_elder' (by exact rU HO224.out) (Kd.R_base ho26) hb); have n4_ := Aside0.mk (Kd.R_lower (Kd.R_new' ho26 (Kd.R_lt (by exact rU HO224.out))) (below_size (by exact wS HB.out GE221.out))); have n5_ := Aside0.mk (blk_below (g := gb221) (o := .cells #[.string t209, .int .i64 t210, .int .i64 t211, .slice Ao17 t212.length co17, .slice Ao18 t215.length co18, .slice Ao19 t218.length co19] 33 (0, 0)) (by (with_reducible repeat (first | refine blk_drewN ?_ _ | refine blk_drew ?_ | refine blk_alloc ?_ _)); exact BK221.out) hb); have n6_ := Aside0.mk (below_step (by exact wS HB.out GE221.out) hb); clear HO214; clear HO217; clear HO220; clear HO224; clear BK221; clear HB; have HO214 := n0_; have HO217 := n1_; have HO220 := n2_; have HO224 := n3_; have HO229 := n4_; have BK221 := n5_; have HB := n6_; clear n0_ n1_ n2_ n3_ n4_ n5_ n6_; clear hb ho26; obtain ⟨Ao27, co27, eo27⟩ := Kd.R_slice HO229.out; subst eo27) | ((with_reducible refine gate_callee (f := 14) rfl ?_); refine goesL_ (some 22) rfl rfl Tryz.func14 (by kernel_rfl) rfl #[.agg #[.string t209, .int .i64 t210, .int .i64 t211, .slice Ao17 t212.length co17, .slice Ao18 t215.length co18, .slice Ao19 t218.length co19], .int .i64 0, .agg #[.int .i64 4, .slice Ao27 y227.length co27]] rfl (by (try simp only [List.map_toArray, List.map_cons, List.map_nil]); first | done | rfl | (simp only [List.length_drop, List.length_take]; rfl)) ?_; (with_reducible refine (render_Write.calls k t209 t210 t211 _ _ t212 _ _ t215 _ _ t218 0 4 _ _ y227 t230 t231 _ ?side1 ?side2 ?side3 ?side4 ?side5 ?side6 ?side7 ?side8 A3.out ?hT_).mono ?_); (case hT_ => first | exact HTB_.out | exact tab_below HTB_.out (by repeat (first | (with_reducible first | exact HB.out | apply below_alloc | apply pw_below_drewN | apply below_drew1 | refine below_set ?_ (Aside0.out ‹_›)) | exact HB.out))); (case side1 => repeat (first | exact (Kd.V_reads' HO214.out).2.2 | (with_reducible refine Kd.C_alloc ?_ _) | (with_reducible refine Kd.C_drewN ?_ _) | (with_reducible refine Kd.C_drew ?_))); (case side2 => exact (Kd.V_reads' HO214.out).2.1); (case side3 => repeat (first | exact (Kd.V_reads' HO217.out).2.2 | (with_reducible refine Kd.C_alloc ?_ _) | (with_reducible refine Kd.C_drewN ?_ _) | (with_reducible refine Kd.C_drew ?_))); (case side4 => exact (Kd.V_reads' HO217.out).2.1); (case side5 => repeat (first | exact (Kd.V_reads' HO220.out).2.2 | (with_reducible refine Kd.C_alloc ?_ _) | (with_reducible refine Kd.C_drewN ?_ _) | (with_reducible refine Kd.C_drew ?_))); (case side6 => exact (Kd.V_reads' HO220.out).2.1); (case side7 => repeat (first | exact (Kd.R_reads' HO229.out).2.2 | (with_reducible refine Kd.C_alloc ?_ _) | (with_reducible refine Kd.C_drewN ?_ _) | (with_reducible refine Kd.C_drew ?_))); (case side8 => exact (Kd.R_reads' HO229.out).2.1); rintro e w28 ⟨rfl, hb⟩; refine ⟨_, rfl, ?_⟩; have n0_ := Aside0.mk (Kd.V_below (by exact vU HO214.out) hb); have n1_ := Aside0.mk (Kd.V_below (by exact vU HO217.out) hb); have n2_ := Aside0.mk (Kd.V_below (by exact vU HO220.out) hb); have n3_ := Aside0.mk (Kd.R_below (by exact rU HO224.out) hb); have n4_ := Aside0.mk (Kd.R_below (by exact rU HO229.out) hb); have n5_ := Aside0.mk (blk_below (g := gb221) (o := .cells #[.string t209, .int .i64 t210, .int .i64 t211, .slice Ao17 t212.length co17, .slice Ao18 t215.length co18, .slice Ao19 t218.length co19] 33 (0, 0)) (by (with_reducible repeat (first | refine blk_drewN ?_ _ | refine blk_drew ?_ | refine blk_alloc ?_ _)); exact BK221.out) hb); have n6_ := Aside0.mk (below_step (by exact wS HB.out GE221.out) hb); clear HO214; clear HO217; clear HO220; clear HO224; clear HO229; clear BK221; clear HB; have HO214 := n0_; have HO217 := n1_; have HO220 := n2_; have HO224 := n3_; have HO229 := n4_; have BK221 := n5_; have HB := n6_; clear n0_ n1_ n2_ n3_ n4_ n5_ n6_; (try clear hb); (try clear hb2); (try clear hk); (try clear hi); have hcz29_0 : w28.cell? ⟨gb221, 0, none⟩ = some (.string t209) := (blk_cell BK221.out 0).trans rfl; have hcz29_1 : w28.cell? ⟨gb221, 1, none⟩ = some (.int .i64 t210) := (blk_cell BK221.out 1).trans rfl; have hcz29_2 : w28.cell? ⟨gb221, 2, none⟩ = some (.int .i64 t211) := (blk_cell BK221.out 2).trans rfl; have hcz29_3 : w28.cell? ⟨gb221, 3, none⟩ = some (.slice Ao17 t212.length co17) := (blk_cell BK221.out 3).trans rfl; have hcz29_4 : w28.cell? ⟨gb221, 4, none⟩ = some (.slice Ao18 t215.length co18) := (blk_cell BK221.out 4).trans rfl; have hcz29_5 : w28.cell? ⟨gb221, 5, none⟩ = some (.slice Ao19 t218.length co19) := (blk_cell BK221.out 5).trans rfl; have hfz29_0 := blk_frozen BK221.out 0; have hfz29_1 := blk_frozen BK221.out 1; have hfz29_2 := blk_frozen BK221.out 2; have hfz29_3 := blk_frozen BK221.out 3; have hfz29_4 := blk_frozen BK221.out 4; have hfz29_5 := blk_frozen BK221.out 5) | ((with_reducible refine gate_callee (f := 14) rfl ?_); refine goesL_ (some 28) rfl rfl Tryz.func14 (by kernel_rfl) rfl #[.agg #[.string t209, .int .i64 t210, .int .i64 t211, .slice Ao17 t212.length co17, .slice Ao18 t215.length co18, .slice Ao19 t218.length co19], .int .i64 99, .agg #[.int .i64 0, .slice none 0 0]] rfl (by (try simp only [List.map_toArray, List.map_cons, List.map_nil]); first | done | rfl | (simp only [List.length_drop, List.length_take]; rfl)) ?_; (refine (render_Write.calls k t209 t210 t211 _ _ t212 _ _ t215 _ _ t218 99 0 _ _ ([] : List Int) t232 t233 _ ?side1 ?side2 ?side3 ?side4 ?side5 ?side6 ?side7 ?side8 A4.out ?hT_).mono ?_); (case hT_ => first | exact HTB_.out | exact tab_below HTB_.out (by repeat (first | (with_reducible first | exact HB.out | apply below_alloc | apply pw_below_drewN | apply below_drew1 | refine below_set ?_ (Aside0.out ‹_›)) | exact HB.out))); (case side1 => repeat (first | exact (Kd.V_reads' HO214.out).2.2 | (with_reducible refine Kd.C_alloc ?_ _) | (with_reducible refine Kd.C_drewN ?_ _) | (with_reducible refine Kd.C_drew ?_))); (case side2 => exact (Kd.V_reads' HO214.out).2.1); (case side3 => repeat (first | exact (Kd.V_reads' HO217.out).2.2 | (with_reducible refine Kd.C_alloc ?_ _) | (with_reducible refine Kd.C_drewN ?_ _) | (with_reducible refine Kd.C_drew ?_))); (case side4 => exact (Kd.V_reads' HO217.out).2.1); (case side5 => repeat (first | exact (Kd.V_reads' HO220.out).2.2 | (with_reducible refine Kd.C_alloc ?_ _) | (with_reducible refine Kd.C_drewN ?_ _) | (with_reducible refine Kd.C_drew ?_))); (case side6 => exact (Kd.V_reads' HO220.out).2.1); (case side7 => exact Kd.C_nil _ _); (case side8 => exact Nat.le_refl _); rintro e w30 ⟨rfl, hb⟩; refine ⟨_, rfl, ?_⟩; have n0_ := Aside0.mk (Kd.V_below (by exact vU HO214.out) hb); have n1_ := Aside0.mk (Kd.V_below (by exact vU HO217.out) hb); have n2_ := Aside0.mk (Kd.V_below (by exact vU HO220.out) hb); have n3_ := Aside0.mk (Kd.R_below (by exact rU HO224.out) hb); have n4_ := Aside0.mk (Kd.R_below (by exact rU HO229.out) hb); have n5_ := Aside0.mk (blk_below (g := gb221) (o := .cells #[.string t209, .int .i64 t210, .int .i64 t211, .slice Ao17 t212.length co17, .slice Ao18 t215.length co18, .slice Ao19 t218.length co19] 33 (0, 0)) (by (with_reducible repeat (first | refine blk_drewN ?_ _ | refine blk_drew ?_ | refine blk_alloc ?_ _)); exact BK221.out) hb); have n6_ := Aside0.mk (below_step (by exact wS HB.out GE221.out) hb); clear HO214; clear HO217; clear HO220; clear HO224; clear HO229; clear BK221; clear HB; have HO214 := n0_; have HO217 := n1_; have HO220 := n2_; have HO224 := n3_; have HO229 := n4_; have BK221 := n5_; have HB := n6_; clear n0_ n1_ n2_ n3_ n4_ n5_ n6_; (try clear hb); (try clear hb2); (try clear hk); (try clear hi); have hcz31_0 : w30.cell? ⟨gb221, 0, none⟩ = some (.string t209) := (blk_cell BK221.out 0).trans rfl; have hcz31_1 : w30.cell? ⟨gb221, 1, none⟩ = some (.int .i64 t210) := (blk_cell BK221.out 1).trans rfl; have hcz31_2 : w30.cell? ⟨gb221, 2, none⟩ = some (.int .i64 t211) := (blk_cell BK221.out 2).trans rfl; have hcz31_3 : w30.cell? ⟨gb221, 3, none⟩ = some (.slice Ao17 t212.length co17) := (blk_cell BK221.out 3).trans rfl; have hcz31_4 : w30.cell? ⟨gb221, 4, none⟩ = some (.slice Ao18 t215.length co18) := (blk_cell BK221.out 4).trans rfl; have hcz31_5 : w30.cell? ⟨gb221, 5, none⟩ = some (.slice Ao19 t218.length co19) := (blk_cell BK221.out 5).trans rfl; have hfz31_0 := blk_frozen BK221.out 0; have hfz31_1 := blk_frozen BK221.out 1; have hfz31_2 := blk_frozen BK221.out 2; have hfz31_3 := blk_frozen BK221.out 3; have hfz31_4 := blk_frozen BK221.out 4; have hfz31_5 := blk_frozen BK221.out 5) | ((with_reducible refine gate_callee (f := 17) rfl ?_); refine goesL_ (some 32) rfl rfl Tryz.func17 (by kernel_rfl) rfl #[.agg #[.string t209, .int .i64 t210, .int .i64 t211, .slice Ao17 t212.length co17, .slice Ao18 t215.length co18, .slice Ao19 t218.length co19], .int .i64 4] rfl (by (try simp only [List.map_toArray, List.map_cons, List.map_nil]); first | done | rfl | (simp only [List.length_drop, List.length_take]; rfl)) ?_; (with_reducible refine (render_Styles.calls k t209 t210 t211 _ _ t212 _ _ t215 _ _ t218 4 t234 _ ?side1 ?side2 ?side3 ?side4 ?side5 ?side6 A5.out).mono ?_); (case side1 => repeat (first | exact (Kd.V_reads' HO214.out).2.2 | (with_reducible refine Kd.C_alloc ?_ _) | (with_reducible refine Kd.C_drewN ?_ _) | (with_reducible refine Kd.C_drew ?_))); (case side2 => exact (Kd.V_reads' HO214.out).2.1); (case side3 => repeat (first | exact (Kd.V_reads' HO217.out).2.2 | (with_reducible refine Kd.C_alloc ?_ _) | (with_reducible refine Kd.C_drewN ?_ _) | (with_reducible refine Kd.C_drew ?_))); (case side4 => exact (Kd.V_reads' HO217.out).2.1); (case side5 => repeat (first | exact (Kd.V_reads' HO220.out).2.2 | (with_reducible refine Kd.C_alloc ?_ _) | (with_reducible refine Kd.C_drewN ?_ _) | (with_reducible refine Kd.C_drew ?_))); (case side6 => exact (Kd.V_reads' HO220.out).2.1); rintro e w32 ⟨v235, rfl, ho0, hb⟩; refine ⟨_, rfl, ?_⟩; have n0_ := Aside0.mk (Kd.V_elder' (by exact vU HO214.out) (Kd.R_base ho0) hb); have n1_ := Aside0.mk (Kd.V_elder' (by exact vU HO217.out) (Kd.R_base ho0) hb); have n2_ := Aside0.mk (Kd.V_elder' (by exact vU HO220.out) (Kd.R_base ho0) hb); have n3_ := Aside0.mk (Kd.R_elder' (by exact rU HO224.out) (Kd.R_base ho0) hb); have n4_ := Aside0.mk (Kd.R_elder' (by exact rU HO229.out) (Kd.R_base ho0) hb); have n5_ := Aside0.mk (Kd.R_lower (Kd.R_new' (Kd.R_new' ho0 (Kd.R_lt (by exact rU HO224.out))) (Kd.R_lt (by exact rU HO229.out))) (below_size (by exact wS HB.out GE221.out))); have n6_ := Aside0.mk (blk_below (g := gb221) (o := .cells #[.string t209, .int .i64 t210, .int .i64 t211, .slice Ao17 t212.length co17, .slice Ao18 t215.length co18, .slice Ao19 t218.length co19] 33 (0, 0)) (by (with_reducible repeat (first | refine blk_drewN ?_ _ | refine blk_drew ?_ | refine blk_alloc ?_ _)); exact BK221.out) hb); have n7_ := Aside0.mk (below_step (by exact wS HB.out GE221.out) hb); clear HO214; clear HO217; clear HO220; clear HO224; clear HO229; clear BK221; clear HB; have HO214 := n0_; have HO217 := n1_; have HO220 := n2_; have HO224 := n3_; have HO229 := n4_; have HO236 := n5_; have BK221 := n6_; have HB := n7_; clear n0_ n1_ n2_ n3_ n4_ n5_ n6_ n7_; (try clear hb); (try clear hb2); (try clear hk); (try clear hi); (try clear ho0)) | ((with_reducible refine gate_callee (f := 17) rfl ?_); refine goesL_ (some 34) rfl rfl Tryz.func17 (by kernel_rfl) rfl #[.agg #[.string (⟨#[]⟩ : ByteArray), .int .i64 0, .int .i64 0, .slice none 0 0, .slice none 0 0, .slice none 0 0], .int .i64 4] rfl (by (try simp only [List.map_toArray, List.map_cons, List.map_nil]); first | done | rfl | (simp only [List.length_drop, List.length_take]; rfl)) ?_; (refine (render_Styles.calls k (⟨#[]⟩ : ByteArray) 0 0 _ _ ([] : List (S89)) _ _ ([] : List (S110)) _ _ ([] : List (S37)) 4 t237 _ ?side1 ?side2 ?side3 ?side4 ?side5 ?side6 A6.out).mono ?_); (case side1 => exact Kd.C_nil _ _); (case side2 => exact Nat.le_refl _); (case side3 => exact Kd.C_nil _ _); (case side4 => exact Nat.le_refl _); (case side5 => exact Kd.C_nil _ _); (case side6 => exact Nat.le_refl _); rintro e w33 ⟨v238, rfl, ho0, hb⟩; refine ⟨_, rfl, ?_⟩; have n0_ := Aside0.mk (Kd.V_elder' (by exact vU HO214.out) (Kd.R_base ho0) hb); have n1_ := Aside0.mk (Kd.V_elder' (by exact vU HO217.out) (Kd.R_base ho0) hb); have n2_ := Aside0.mk (Kd.V_elder' (by exact vU HO220.out) (Kd.R_base ho0) hb); have n3_ := Aside0.mk (Kd.R_elder' (by exact rU HO224.out) (Kd.R_base ho0) hb); have n4_ := Aside0.mk (Kd.R_elder' (by exact rU HO229.out) (Kd.R_base ho0) hb); have n5_ := Aside0.mk (Kd.R_elder' (by exact rU HO236.out) (Kd.R_base ho0) hb); have n6_ := Aside0.mk (Kd.R_lower (Kd.R_new' (Kd.R_new' (Kd.R_new' ho0 (Kd.R_lt (by exact rU HO224.out))) (Kd.R_lt (by exact rU HO229.out))) (Kd.R_lt (by exact rU HO236.out))) (below_size (by exact wS HB.out GE221.out))); have n7_ := Aside0.mk (blk_below (g := gb221) (o := .cells #[.string t209, .int .i64 t210, .int .i64 t211, .slice Ao17 t212.length co17, .slice Ao18 t215.length co18, .slice Ao19 t218.length co19] 33 (0, 0)) (by (with_reducible repeat (first | refine blk_drewN ?_ _ | refine blk_drew ?_ | refine blk_alloc ?_ _)); exact BK221.out) hb); have n8_ := Aside0.mk (below_step (by exact wS HB.out GE221.out) hb); clear HO214; clear HO217; clear HO220; clear HO224; clear HO229; clear HO236; clear BK221; clear HB; have HO214 := n0_; have HO217 := n1_; have HO220 := n2_; have HO224 := n3_; have HO229 := n4_; have HO236 := n5_; have HO239 := n6_; have BK221 := n7_; have HB := n8_; clear n0_ n1_ n2_ n3_ n4_ n5_ n6_ n7_ n8_; (try clear hb); (try clear hb2); (try clear hk); (try clear hi); (try clear ho0); obtain ⟨Ao34, co34, eo34⟩ := Kd.R_slice HO239.out; subst eo34; obtain ⟨Ao35, co35, eo35⟩ := Kd.R_slice HO236.out; subst eo35; have p240 : 0 ≤ (0 : Int) := (by omega); have q240 : 0 < (t234.length : Int) := of_decide_eq_true (by first | (with_reducible assumption) | assumption); obtain ⟨ad240, e240, hx240_0⟩ := Kd.at_int (Kd.R_reads' HO236.out).2.2 0 p240 q240; cases e240; have qi240 : (0 < t234.length) = True := eq_true (by omega); (try rw [show ((0 : Int)).toNat = 0 from rfl] at hx240_0); (try rw [Addr.add_zero'] at hx240_0); replace p240 := eq_true p240; replace q240 := eq_true q240))
  go_ret
  exact ⟨by first | rfl | (simp [errW_none, errW_some] <;> rfl) | (simp [*, errW_none, errW_some] <;> rfl), by exact wS HB.out GE221.out⟩
end Go.Proofs.YtjijikgandkphaaGreatDoor.G
