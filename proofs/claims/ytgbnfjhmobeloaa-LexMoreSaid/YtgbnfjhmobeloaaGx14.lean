import Derived.Test.YtgbnfjhmobeloaaGx0
import Derived.Test.YtgbnfjhmobeloaaGx6
import Derived.Test.YtgbnfjhmobeloaaGx11
import Derived.Test.YtgbnfjhmobeloaaGx13
namespace Go.Proofs.Ytgbnfjhmobeloaa.G
open Go.RowKit Go.Proofs.YtgbnfjhmobeloaaW.PrintWords Go.Proofs.YtgbnfjhmobeloaaW.PrintLast Go.Proofs.YtgbnfjhmobeloaaW.PrintMore Go.Proofs.YtgbnfjhmobeloaaW.VWords
attribute [local go_sem] max2_int min2_int max_two min_two max_three min_three max_four min_four
set_option linter.unusedVariables false
set_option linter.unusedSimpArgs false
def lex_At.l0 : Nat → Int → List (S47) → List (S47) → Int → Int → Option ((List (S47)))
 | 0, _, _, _, _, _ => none
 | k + 1, x1, x5, x8, x9, x10 => if x10 < x9 then (if 0 ≤ x10 then (if x10 < (x8.length : Int) then (if ((rd_T47 x8 x10).f0) = x1 then (if x5.length < 3518437208883 then (lex_At.l0 k x1 (x5 ++ [(⟨(rd_T47 x8 x10).f0, (rd_T47 x8 x10).f1, (rd_T47 x8 x10).f2, (rd_T47 x8 x10).f3, (rd_T47 x8 x10).f4⟩ : S47)]) x8 x9 (wrap64 (x10 + 1))) else (none)) else (lex_At.l0 k x1 x5 x8 x9 (wrap64 (x10 + 1)))) else (none)) else (none)) else ((api_Tok_42.f x5).bind fun t164 => (some t164))
def lex_At.f (k : Nat) (l0 : List (S47)) (a1 : Int) : Option ((List (S47))) := lex_At.l0 k a1 ([] : List (S47)) l0 (l0.length : Int) 0
theorem lex_At.mono_l : ∀ k, (∀ y0 y1 y2 y3 y4, LeO (lex_At.l0 k y0 y1 y2 y3 y4) (lex_At.l0 (k + 1) y0 y1 y2 y3 y4))
 | 0 => fun _ _ _ _ _ r h => by simp [lex_At.l0] at h
 | k + 1 => by
  have ih0 := lex_At.mono_l k
  ·intro y0 y1 y2 y3 y4
   unfold lex_At.l0
   repeat' first
   | (with_reducible exact ih0 _ _ _ _ _)
   | (with_reducible exact LeO.refl _)
   | (with_reducible exact LeO.none _)
   | (with_reducible refine LeO.ite ?_ ?_)
   | (with_reducible refine LeO.bind ?_ (fun _ => ?_))
   | exact ih0 _ _ _ _ _
   | exact LeO.none _
   | refine LeO.ite ?_ ?_
   | refine LeO.bind ?_ (fun _ => ?_)
theorem lex_At.mono : ∀ a0 a1 k, LeO (lex_At.f k a0 a1) (lex_At.f (k + 1) a0 a1) := by
 intro a0 a1 k
 have ih0 := lex_At.mono_l k
 unfold lex_At.f
 repeat' first
   | (with_reducible exact ih0 _ _ _ _ _)
   | (with_reducible exact LeO.refl _)
   | (with_reducible exact LeO.none _)
   | (with_reducible refine LeO.ite ?_ ?_)
   | (with_reducible refine LeO.bind ?_ (fun _ => ?_))
   | exact ih0 _ _ _ _ _
   | exact LeO.none _
   | refine LeO.ite ?_ ?_
   | refine LeO.bind ?_ (fun _ => ?_)
set_option maxHeartbeats 8000000 in
set_option maxRecDepth 100000 in
theorem lex_At.calls (k : Nat) (A0 : Option Addr) (c0 : Nat) (l0 : List (S47)) (a1 : Int) (r : List (S47)) (w : World) (hr0 : Kd.C k47 w A0 l0.length l0) (hc0 : l0.length ≤ c0) (h : lex_At.f k l0 a1 = some r) :
  Calls Try.prog 25 #[.slice A0 l0.length c0, .int .i64 a1] w fun e w' => ∃ v0_ : Value, e = .returned (v0_) ∧ Kd.R k47 47 w' w.heap.size (fun _ => True) v0_ r ∧ Below w.heap.size w w' := by
 have hu47 := Try.underlying47
 have HR0 := Aside0.mk hr0
 have HC0 := Aside0.mk hc0
 clear hr0 hc0
 have HB := Aside0.mk (Below.refl w.heap.size w)
 have H : (lex_At.l0 k a1 ([] : List (S47)) l0 (l0.length : Int) 0) = some r := h
 clear h
 have H' := Aside0.mk H
 clear H
 go_enter Try.func25, Try.ntmps25
 go_wp2
 go_loopg [5, 10] k (fun kq v5 v10 w' => ∃ (x5_1 : List (S47)) (x10_1 : Int), v10 = .int .i64 x10_1 ∧ Aside0 (lex_At.l0 kq a1 x5_1 l0 (l0.length : Int) x10_1 = some r) ∧ Aside0 (kq ≤ k) ∧ Aside0 (Kd.R k47 47 w' w.heap.size (fun _ => True) v5 x5_1) ∧ Aside0 (Below w.heap.size w w'))
 case atStart => exact ⟨(([] : List (S47))), (0), (by first | rfl | (simp; done) | (simp [*]; done)), H', ⟨Nat.le_refl _⟩, ⟨by first | exact Kd.R_nil _ _ _ _ _ | exact Kd.N_nil _ _ _ _ _ | exact Kd.V_nil _ _ _ _ _ | exact Kd.Q_nil _ _ _ _ _ | exact Kd.S_nil _ _ _ _ _⟩, ⟨by exact wU HB.out⟩⟩
 case round =>
  clear H'
  try clear c2
  try clear p2
  obtain ⟨x5_1, x10_1, rfl, HA, HK1, HO_5, HB⟩ := hrel
  cases gk with
  | zero => exact absurd HA.out (by simp [lex_At.l0])
  | succ k1 =>
   have H := HA.out
   clear HA
   simp only [lex_At.l0] at H
   by_cases c3 : x10_1 < (l0.length : Int)
   ·rw [if_pos c3] at H
    have c3b0 : decide (x10_1 < (l0.length : Int)) = true := decide_eq_true c3
    clear c3
    by_cases c4 : 0 ≤ x10_1
    ·rw [if_pos c4] at H
     have c4b0 : decide (0 ≤ x10_1) = true := decide_eq_true c4
     clear c4
     by_cases c5 : x10_1 < (l0.length : Int)
     ·rw [if_pos c5] at H
      have c5b0 : decide (x10_1 < (l0.length : Int)) = true := decide_eq_true c5
      clear c5
      by_cases c6 : ((rd_T47 l0 x10_1).f0) = a1
      ·rw [if_pos c6] at H
       have c6b0 : (((rd_T47 l0 x10_1).f0) == a1) = true := beq_iff_eq.mpr c6
       have c6b1 : (((rd_T47 l0 x10_1).f0) != a1) = false := bne_eq_false_iff_eq.mpr c6
       clear c6
       by_cases c7 : x5_1.length < 3518437208883
       ·rw [if_pos c7] at H
        have LMc7 := Aside0.mk c7
        clear c7
        obtain ⟨y161, hy161⟩ : ∃ y_ : List (S47), y_ = (x5_1 ++ [(⟨(rd_T47 l0 x10_1).f0, (rd_T47 l0 x10_1).f1, (rd_T47 l0 x10_1).f2, (rd_T47 l0 x10_1).f3, (rd_T47 l0 x10_1).f4⟩ : S47)]) := ⟨_, rfl⟩
        replace H : (lex_At.l0 k1 a1 y161 l0 (l0.length : Int) (wrap64 (x10_1 + 1))) = some r := by first | (rw [hy161]; with_reducible exact H) | (have H2_ := (Option.bind_some _ _).symm.trans H; rw [hy161]; with_reducible exact H2_) | (have H2_ := (Option.bind_some _ _).symm.trans H; with_reducible exact H2_) | with_reducible exact H | (rw [hy161]; exact H) | exact H
        have Ny161 := Aside0.mk hy161
        clear hy161
        have H' := Aside0.mk H
        clear H
        have p159 : 0 ≤ (x10_1 : Int) := of_decide_eq_true (by first | (with_reducible assumption) | assumption)
        have q159 : x10_1 < (l0.length : Int) := of_decide_eq_true (by first | (with_reducible assumption) | assumption)
        obtain ⟨ad159, e159, hx159_0, hx159_1, hx159_2, hx159_3, hx159_4⟩ := at_T47 HR0.out x10_1 p159 q159
        cases e159
        replace hx159_0 := (HB.out.cell (World.block_lt_of_cell? w _ hx159_0)).trans hx159_0
        replace hx159_1 := (HB.out.cell (World.block_lt_of_cell? w _ hx159_1)).trans hx159_1
        replace hx159_2 := (HB.out.cell (World.block_lt_of_cell? w _ hx159_2)).trans hx159_2
        replace hx159_3 := (HB.out.cell (World.block_lt_of_cell? w _ hx159_3)).trans hx159_3
        replace hx159_4 := (HB.out.cell (World.block_lt_of_cell? w _ hx159_4)).trans hx159_4
        replace p159 := eq_true p159
        replace q159 := eq_true q159
        go_wp2_with (first | ((with_reducible refine gate_dst (N := 7) rfl ?_); refine box_event ?hg (N := 7) ?hd (cs := #[.int .i64 0, .int .i64 0, .int .i64 0, .int .i64 0, .int .i64 0]) (t := 47) ?hr ?_; (case hd => rfl); (case hg => rfl); (case hr => first | (go_simp; done) | (go_simp; rfl)); intro gb160 hg w8 hbox hb; have n0_ := Aside0.mk (Kd.R_below (Kd.R_elderB (by exact rU HO_5.out) gb160 (Nat.le_of_eq hg.symm)) hb); have n1_ := Aside0.mk (below_step (by exact wU HB.out) hb); have n2_ := Aside0.mk (hbox); have n3_ := Aside0.mk ((by rw [hg]; exact (below_size (by exact wU HB.out)) : w.heap.size ≤ gb160)); have n4_ := Aside0.mk ((by rw [hg]; exact (below_size (by exact wU HB.out)) : w.heap.size ≤ gb160)); clear HO_5; clear HB; have HO_5 := n0_; have HB := n1_; have BK160 := n2_; have GW160 := n3_; have GE160 := n4_; clear n0_ n1_ n2_ n3_ n4_; clear hb hbox hg; have hcz9_0 : w8.cell? ⟨gb160, 0, none⟩ = some (.int .i64 0) := (blk_cell BK160.out 0).trans rfl; have hcz9_1 : w8.cell? ⟨gb160, 1, none⟩ = some (.int .i64 0) := (blk_cell BK160.out 1).trans rfl; have hcz9_2 : w8.cell? ⟨gb160, 2, none⟩ = some (.int .i64 0) := (blk_cell BK160.out 2).trans rfl; have hcz9_3 : w8.cell? ⟨gb160, 3, none⟩ = some (.int .i64 0) := (blk_cell BK160.out 3).trans rfl; have hcz9_4 : w8.cell? ⟨gb160, 4, none⟩ = some (.int .i64 0) := (blk_cell BK160.out 4).trans rfl; have hfz9_0 := blk_frozen BK160.out 0; have hfz9_1 := blk_frozen BK160.out 1; have hfz9_2 := blk_frozen BK160.out 2; have hfz9_3 := blk_frozen BK160.out 3; have hfz9_4 := blk_frozen BK160.out 4) | ((with_reducible refine gate_builtin (b := .append) (xs := #[.tmp 18, .tmp 20]) rfl ?_); at_builtin; refine Kd.R_append k47 (w0 := w) w.heap.size rfl (.tmp 18) (.tmp 20) 39 47 (.agg #[(.int .i64 0), (.int .i64 0), (.int .i64 0), (.int .i64 0), (.int .i64 0)]) 40 rfl Try.underlying39 info47 rfl (by decide) (by omega) u5 x5_1 (⟨(rd_T47 l0 x10_1).f0, (rd_T47 l0 x10_1).f1, (rd_T47 l0 x10_1).f2, (rd_T47 l0 x10_1).f3, (rd_T47 l0 x10_1).f4⟩ : S47) [.int .i64 ((rd_T47 l0 x10_1).f0), .int .i64 ((rd_T47 l0 x10_1).f1), .int .i64 ((rd_T47 l0 x10_1).f2), .int .i64 ((rd_T47 l0 x10_1).f3), .int .i64 ((rd_T47 l0 x10_1).f4)] (fun k_ => k_ ≠ gb160) (fun _ => False) rfl (by first | (go_simp; done) | (go_simp; rfl)) ?aP (fun _ hk => hk.elim) ?aF ?aO ?aB ?aS ?aL ?_; (case aP => exact k47_mkM _ _ _ (⟨(rd_T47 l0 x10_1).f0, (rd_T47 l0 x10_1).f1, (rd_T47 l0 x10_1).f2, (rd_T47 l0 x10_1).f3, (rd_T47 l0 x10_1).f4⟩ : S47)); (case aB => exact (by exact wS HB.out GE160.out)); (case aF => exact (fun k_ hk => Kd.freshB (g := gb160) (o := .cells #[.int .i64 ((rd_T47 l0 x10_1).f0), .int .i64 ((rd_T47 l0 x10_1).f1), .int .i64 ((rd_T47 l0 x10_1).f2), .int .i64 ((rd_T47 l0 x10_1).f3), .int .i64 ((rd_T47 l0 x10_1).f4)] 47 (0, 0)) (by (with_reducible repeat (first | refine blk_drewN ?_ _ | refine blk_drew ?_ | refine blk_alloc ?_ _)); refine blk_put (cs := #[.int .i64 ((rd_T47 l0 x10_1).f0), .int .i64 ((rd_T47 l0 x10_1).f1), .int .i64 ((rd_T47 l0 x10_1).f2), .int .i64 ((rd_T47 l0 x10_1).f3), .int .i64 0]) ?_ 4 _ rfl; (with_reducible repeat (first | refine blk_drewN ?_ _ | refine blk_drew ?_ | refine blk_alloc ?_ _)); refine blk_put (cs := #[.int .i64 ((rd_T47 l0 x10_1).f0), .int .i64 ((rd_T47 l0 x10_1).f1), .int .i64 ((rd_T47 l0 x10_1).f2), .int .i64 0, .int .i64 0]) ?_ 3 _ rfl; (with_reducible repeat (first | refine blk_drewN ?_ _ | refine blk_drew ?_ | refine blk_alloc ?_ _)); refine blk_put (cs := #[.int .i64 ((rd_T47 l0 x10_1).f0), .int .i64 ((rd_T47 l0 x10_1).f1), .int .i64 0, .int .i64 0, .int .i64 0]) ?_ 2 _ rfl; (with_reducible repeat (first | refine blk_drewN ?_ _ | refine blk_drew ?_ | refine blk_alloc ?_ _)); refine blk_put (cs := #[.int .i64 ((rd_T47 l0 x10_1).f0), .int .i64 0, .int .i64 0, .int .i64 0, .int .i64 0]) ?_ 1 _ rfl; (with_reducible repeat (first | refine blk_drewN ?_ _ | refine blk_drew ?_ | refine blk_alloc ?_ _)); refine blk_put (cs := #[.int .i64 0, .int .i64 0, .int .i64 0, .int .i64 0, .int .i64 0]) ?_ 0 _ rfl; (with_reducible repeat (first | refine blk_drewN ?_ _ | refine blk_drew ?_ | refine blk_alloc ?_ _)); exact BK160.out) k_ hk)); (case aO => exact (by exact rU (Kd.R_mono (Kd.R_far (p := ⟨gb160, 4, none⟩) (Kd.R_far (p := ⟨gb160, 3, none⟩) (Kd.R_far (p := ⟨gb160, 2, none⟩) (Kd.R_far (p := ⟨gb160, 1, none⟩) (Kd.R_far (p := ⟨gb160, 0, none⟩) (Kd.R_mono HO_5.out (fun k_ hk => (⟨hk, hk.2⟩ : _ ∧ k_ ≠ gb160))) (fun _ hk => hk.2) (.int .i64 ((rd_T47 l0 x10_1).f0))) (fun _ hk => hk.2) (.int .i64 ((rd_T47 l0 x10_1).f1))) (fun _ hk => hk.2) (.int .i64 ((rd_T47 l0 x10_1).f2))) (fun _ hk => hk.2) (.int .i64 ((rd_T47 l0 x10_1).f3))) (fun _ hk => hk.2) (.int .i64 ((rd_T47 l0 x10_1).f4))) (fun _ hk => hk.1.2)))); (case aS => exact (below_size (by exact wS HB.out GE160.out))); (case aL => have := LMc7.out; omega); intro v162 w10 ho hb hg hat; rw [← Ny161.out] at ho; have n0_ := Aside0.mk (blk_grown (g := gb160) (o := .cells #[.int .i64 ((rd_T47 l0 x10_1).f0), .int .i64 ((rd_T47 l0 x10_1).f1), .int .i64 ((rd_T47 l0 x10_1).f2), .int .i64 ((rd_T47 l0 x10_1).f3), .int .i64 ((rd_T47 l0 x10_1).f4)] 47 (0, 0)) (by (with_reducible repeat (first | refine blk_drewN ?_ _ | refine blk_drew ?_ | refine blk_alloc ?_ _)); refine blk_put (cs := #[.int .i64 ((rd_T47 l0 x10_1).f0), .int .i64 ((rd_T47 l0 x10_1).f1), .int .i64 ((rd_T47 l0 x10_1).f2), .int .i64 ((rd_T47 l0 x10_1).f3), .int .i64 0]) ?_ 4 _ rfl; (with_reducible repeat (first | refine blk_drewN ?_ _ | refine blk_drew ?_ | refine blk_alloc ?_ _)); refine blk_put (cs := #[.int .i64 ((rd_T47 l0 x10_1).f0), .int .i64 ((rd_T47 l0 x10_1).f1), .int .i64 ((rd_T47 l0 x10_1).f2), .int .i64 0, .int .i64 0]) ?_ 3 _ rfl; (with_reducible repeat (first | refine blk_drewN ?_ _ | refine blk_drew ?_ | refine blk_alloc ?_ _)); refine blk_put (cs := #[.int .i64 ((rd_T47 l0 x10_1).f0), .int .i64 ((rd_T47 l0 x10_1).f1), .int .i64 0, .int .i64 0, .int .i64 0]) ?_ 2 _ rfl; (with_reducible repeat (first | refine blk_drewN ?_ _ | refine blk_drew ?_ | refine blk_alloc ?_ _)); refine blk_put (cs := #[.int .i64 ((rd_T47 l0 x10_1).f0), .int .i64 0, .int .i64 0, .int .i64 0, .int .i64 0]) ?_ 1 _ rfl; (with_reducible repeat (first | refine blk_drewN ?_ _ | refine blk_drew ?_ | refine blk_alloc ?_ _)); refine blk_put (cs := #[.int .i64 0, .int .i64 0, .int .i64 0, .int .i64 0, .int .i64 0]) ?_ 0 _ rfl; (with_reducible repeat (first | refine blk_drewN ?_ _ | refine blk_drew ?_ | refine blk_alloc ?_ _)); exact BK160.out) hg (Kd.R_away HO_5.out (fun _ hk => hk.2))); have n1_ := Aside0.mk (hb); have n2_ := Aside0.mk (ho); clear BK160; clear HB; clear HO_5; have BK160 := n0_; have HB := n1_; have HO163 := n2_; clear n0_ n1_ n2_; clear ho hb hg hat))
        go_roundg k1
        case measure => have := HK1.out; omega
        case rel => exact ⟨(y161), (wrap64 (x10_1 + 1)), (by first | rfl | (simp; done) | (simp [*]; done)), H', ⟨by have := HK1.out; omega⟩, ⟨by exact rU (Kd.R_mono HO163.out (fun _ hk => trivial))⟩, ⟨by exact wS HB.out GE160.out⟩⟩
       ·rw [if_neg c7] at H
        exact absurd H (by simp)
      ·rw [if_neg c6] at H
       have c6b0 : (((rd_T47 l0 x10_1).f0) == a1) = false := beq_eq_false_iff_ne.mpr c6
       have c6b1 : (((rd_T47 l0 x10_1).f0) != a1) = true := bne_iff_ne.mpr c6
       have H' := Aside0.mk H
       clear H
       have p159 : 0 ≤ (x10_1 : Int) := of_decide_eq_true (by first | (with_reducible assumption) | assumption)
       have q159 : x10_1 < (l0.length : Int) := of_decide_eq_true (by first | (with_reducible assumption) | assumption)
       obtain ⟨ad159, e159, hx159_0, hx159_1, hx159_2, hx159_3, hx159_4⟩ := at_T47 HR0.out x10_1 p159 q159
       cases e159
       replace hx159_0 := (HB.out.cell (World.block_lt_of_cell? w _ hx159_0)).trans hx159_0
       replace hx159_1 := (HB.out.cell (World.block_lt_of_cell? w _ hx159_1)).trans hx159_1
       replace hx159_2 := (HB.out.cell (World.block_lt_of_cell? w _ hx159_2)).trans hx159_2
       replace hx159_3 := (HB.out.cell (World.block_lt_of_cell? w _ hx159_3)).trans hx159_3
       replace hx159_4 := (HB.out.cell (World.block_lt_of_cell? w _ hx159_4)).trans hx159_4
       replace p159 := eq_true p159
       replace q159 := eq_true q159
       go_wp2_with (first | ((with_reducible refine gate_dst (N := 7) rfl ?_); refine box_event ?hg (N := 7) ?hd (cs := #[.int .i64 0, .int .i64 0, .int .i64 0, .int .i64 0, .int .i64 0]) (t := 47) ?hr ?_; (case hd => rfl); (case hg => rfl); (case hr => first | (go_simp; done) | (go_simp; rfl)); intro gb160 hg w11 hbox hb; have n0_ := Aside0.mk (Kd.R_below (Kd.R_elderB (by exact rU HO_5.out) gb160 (Nat.le_of_eq hg.symm)) hb); have n1_ := Aside0.mk (below_step (by exact wU HB.out) hb); have n2_ := Aside0.mk (hbox); have n3_ := Aside0.mk ((by rw [hg]; exact (below_size (by exact wU HB.out)) : w.heap.size ≤ gb160)); have n4_ := Aside0.mk ((by rw [hg]; exact (below_size (by exact wU HB.out)) : w.heap.size ≤ gb160)); clear HO_5; clear HB; have HO_5 := n0_; have HB := n1_; have BK160 := n2_; have GW160 := n3_; have GE160 := n4_; clear n0_ n1_ n2_ n3_ n4_; clear hb hbox hg; have hcz12_0 : w11.cell? ⟨gb160, 0, none⟩ = some (.int .i64 0) := (blk_cell BK160.out 0).trans rfl; have hcz12_1 : w11.cell? ⟨gb160, 1, none⟩ = some (.int .i64 0) := (blk_cell BK160.out 1).trans rfl; have hcz12_2 : w11.cell? ⟨gb160, 2, none⟩ = some (.int .i64 0) := (blk_cell BK160.out 2).trans rfl; have hcz12_3 : w11.cell? ⟨gb160, 3, none⟩ = some (.int .i64 0) := (blk_cell BK160.out 3).trans rfl; have hcz12_4 : w11.cell? ⟨gb160, 4, none⟩ = some (.int .i64 0) := (blk_cell BK160.out 4).trans rfl; have hfz12_0 := blk_frozen BK160.out 0; have hfz12_1 := blk_frozen BK160.out 1; have hfz12_2 := blk_frozen BK160.out 2; have hfz12_3 := blk_frozen BK160.out 3; have hfz12_4 := blk_frozen BK160.out 4))
       go_roundg k1
       case measure => have := HK1.out; omega
       case rel => exact ⟨(x5_1), (wrap64 (x10_1 + 1)), (by first | rfl | (simp; done) | (simp [*]; done)), H', ⟨by have := HK1.out; omega⟩, ⟨by exact rU (Kd.R_mono (Kd.R_far (p := ⟨gb160, 4, none⟩) (Kd.R_far (p := ⟨gb160, 3, none⟩) (Kd.R_far (p := ⟨gb160, 2, none⟩) (Kd.R_far (p := ⟨gb160, 1, none⟩) (Kd.R_far (p := ⟨gb160, 0, none⟩) (Kd.R_mono HO_5.out (fun k_ hk => (⟨hk, hk.2⟩ : _ ∧ k_ ≠ gb160))) (fun _ hk => hk.2) (.int .i64 ((rd_T47 l0 x10_1).f0))) (fun _ hk => hk.2) (.int .i64 ((rd_T47 l0 x10_1).f1))) (fun _ hk => hk.2) (.int .i64 ((rd_T47 l0 x10_1).f2))) (fun _ hk => hk.2) (.int .i64 ((rd_T47 l0 x10_1).f3))) (fun _ hk => hk.2) (.int .i64 ((rd_T47 l0 x10_1).f4))) (fun _ hk => trivial))⟩, ⟨by exact wS HB.out GE160.out⟩⟩
     ·rw [if_neg c5] at H
      exact absurd H (by simp)
    ·rw [if_neg c4] at H
     exact absurd H (by simp)
   ·rw [if_neg c3] at H
    have c3b0 : decide (x10_1 < (l0.length : Int)) = false := decide_eq_false c3
    clear c3
    replace H := Option.bind_eq_some_iff.mp H
    obtain ⟨t164, A130, H⟩ := H
    replace H : (some t164) = some r := H
    have A13 := Aside0.mk A130
    clear A130
    obtain rfl := Option.some.inj H
    obtain ⟨Ao14, co14, eo14⟩ := Kd.R_slice HO_5.out
    subst eo14
    go_wp2_with (first | ((with_reducible refine gate_callee (f := 42) rfl ?_); refine goesL_ (some 24) rfl rfl Try.func42 (by kernel_rfl) rfl #[.slice Ao14 x5_1.length co14] rfl (by (try simp only [List.map_toArray, List.map_cons, List.map_nil]); first | done | rfl | (simp only [List.length_drop, List.length_take]; rfl)) ?_; (with_reducible refine (api_Tok_42.calls _ _ x5_1 t164 _ ?side1 ?side2 A13.out).mono ?_); (case side1 => repeat (first | exact (Kd.R_reads' HO_5.out).2.2 | (with_reducible refine Kd.C_alloc ?_ _) | (with_reducible refine Kd.C_drewN ?_ _) | (with_reducible refine Kd.C_drew ?_))); (case side2 => exact (Kd.R_reads' HO_5.out).2.1); rintro e w15 ⟨v165, rfl, ho0, hb⟩; refine ⟨_, rfl, ?_⟩; have n0_ := Aside0.mk (Kd.R_elder' (by exact rU HO_5.out) (Kd.R_base ho0) hb); have n1_ := Aside0.mk (Kd.R_lower (Kd.R_new' ho0 (Kd.R_lt (by exact rU HO_5.out))) (below_size (by exact wU HB.out))); have n2_ := Aside0.mk (below_step (by exact wU HB.out) hb); clear HO_5; clear HB; have HO_5 := n0_; have HO166 := n1_; have HB := n2_; clear n0_ n1_ n2_; (try clear hb); (try clear hb2); (try clear hk); (try clear hi); (try clear ho0)))
    go_ret
    exact ⟨_, by first | rfl | (simp [errW_none, errW_some] <;> rfl) | (simp [*, errW_none, errW_some] <;> rfl), by exact rU (Kd.R_mono HO166.out (fun _ hk => trivial)), by exact wU HB.out⟩
def interlocutorlaw6_known.f (k : Nat)  : Option (Bool) := (some (([(⟨(⟨#[109, 97, 121]⟩ : ByteArray), 1, 5⟩ : S53)] : List (S53)) : List (S53))).bind fun y167 => ((interlocutorref3_Fold.f k (⟨#[32, 49, 50, 109, 97, 121]⟩ : ByteArray)).bind fun bt171 => ((lex_Tokens.f (⟨#[]⟩ : ByteArray) 0 0 y167 ([] : List (S108)) ([] : List (S138)) bt171.1).bind fun t177 => ((lex_Ends.f bt171.1).bind fun t180 => ((lex_Tokens.f (⟨#[]⟩ : ByteArray) 0 0 y167 ([] : List (S108)) ([] : List (S138)) ([] : List Int)).bind fun t183 => (if (t183.length : Int) = 0 then (if (t177.length : Int) = 4 then (if 0 < (t177.length : Int) then (if ((rd_T47 t177 0).f1) = 3 then (if ((rd_T47 t177 0).f3) = 12 then (if 3 < (t177.length : Int) then (if ((rd_T47 t177 3).f2) = 1 then ((lex_At.f k t177 0).bind fun t189 => (if (t189.length : Int) = 1 then (if (t180.length : Int) = 7 then (if 6 < (t180.length : Int) then (if rdOf false t180 6 = true then (if 0 < (t180.length : Int) then (some (!(rdOf false t180 0))) else (none)) else (some false)) else (none)) else (some false)) else (some false))) else (some false)) else (none)) else (some false)) else (some false)) else (none)) else (some false)) else (some false))))))
theorem interlocutorlaw6_known.mono : ∀ k, LeO (interlocutorlaw6_known.f k ) (interlocutorlaw6_known.f (k + 1) ) := by
 intro  k
 unfold interlocutorlaw6_known.f
 repeat' first
   | (with_reducible exact interlocutorref3_Fold.mono _ _)
   | (with_reducible exact lex_At.mono _ _ _)
   | (with_reducible exact LeO.refl _)
   | (with_reducible exact LeO.none _)
   | (with_reducible refine LeO.ite ?_ ?_)
   | (with_reducible refine LeO.bind ?_ (fun _ => ?_))
   | exact interlocutorref3_Fold.mono _ _
   | exact lex_At.mono _ _ _
   | exact LeO.none _
   | refine LeO.ite ?_ ?_
   | refine LeO.bind ?_ (fun _ => ?_)
namespace KN
def ltT (x y : S47) : Prop := cmpT x y < 0
instance (x y : S47) : Decidable (ltT x y) := inferInstanceAs (Decidable (_ < _))
theorem cmpI_self (a : Int) : cmpI a a = 0 := by unfold cmpI; rw [if_neg (by omega), if_neg (by omega)]
theorem cmpT_self (x : S47) : cmpT x x = 0 := by unfold cmpT or2; simp only [cmpI_self, if_true]
theorem cmpI_anti (a b : Int) : cmpI b a = - cmpI a b := by
 unfold cmpI
 repeat' split
 all_goals omega
theorem cmpT_anti (x y : S47) : cmpT y x = - cmpT x y := by
 unfold cmpT or2
 rw [cmpI_anti x.f0 y.f0, cmpI_anti x.f1 y.f1, cmpI_anti x.f2 y.f2, cmpI_anti x.f3 y.f3, cmpI_anti x.f4 y.f4]
 repeat' split
 all_goals omega
theorem sort_of_lt {l : List S47} (h : l.Pairwise ltT) : sortT l = l := by
 unfold sortT
 refine List.mergeSort_of_pairwise (h.imp ?_)
 intro a b hab
 have e := cmpT_anti a b
 unfold ltT at hab
 show (!(decide (cmpT b a < 0))) = true
 rw [decide_eq_false (by omega)]
 rfl
theorem dedup_of_lt : ∀ {l : List S47}, l.Pairwise ltT → dedup l = l
 | [], _ => rfl
 | [_], _ => rfl
 | x :: y :: l, h => by
  have h1 := List.pairwise_cons.1 h
  have hne : ¬ sameT x y = true := fun e => by
   have hxy := h1.1 y (List.mem_cons_self ..)
   rw [(sameT_iff x y).1 e] at hxy
   unfold ltT at hxy
   rw [cmpT_self] at hxy
   omega
  rw [show dedup (x :: y :: l) = if sameT x y = true then dedup (y :: l) else x :: dedup (y :: l) from rfl, if_neg hne, dedup_of_lt h1.2]
theorem tok_of_lt {lex : List S53} {l : List Int} (h : (rawF l (wordsF lex) l.length).Pairwise ltT) : tokF lex l = rawF l (wordsF lex) l.length := by
 unfold tokF
 rw [sort_of_lt h, dedup_of_lt h]
def kLex : List S53 := [⟨(⟨#[109, 97, 121]⟩ : ByteArray), 1, 5⟩]
def kText : List Int := [32, 49, 50, 109, 97, 121]
def kToks : List S47 := rawF kText (wordsF kLex) 6
theorem known_raw : kToks = [⟨0, 3, 0, 12, 2⟩, ⟨1, 3, 0, 12, 2⟩, ⟨2, 3, 0, 2, 1⟩, ⟨3, 6, 1, 5, 0⟩] := by kernel_rfl
theorem known_toks : lex_Tokens.f (⟨#[]⟩ : ByteArray) 0 0 kLex [] [] kText = some [⟨0, 3, 0, 12, 2⟩, ⟨1, 3, 0, 12, 2⟩, ⟨2, 3, 0, 2, 1⟩, ⟨3, 6, 1, 5, 0⟩] := by
 have e : rawF kText (wordsF kLex) kText.length = kToks := rfl
 rw [lex_Tokens.f_is _ _ _ _ _ _ _ (by decide) (by decide) (fun e he => by
  obtain rfl := List.mem_singleton.1 he
  decide), tok_of_lt (by rw [e, known_raw]; decide +kernel), e, known_raw]
theorem known_ok : interlocutorlaw6_known.f 30 = some true := by
 have h1 : (interlocutorref3_Fold.f 30 (⟨#[32, 49, 50, 109, 97, 121]⟩ : ByteArray)).map (fun p => p.1) = some kText := by kernel_rfl
 have h2 : lex_Tokens.f (⟨#[]⟩ : ByteArray) 0 0 kLex [] [] [] = some [] := by
  rw [lex_Tokens.f_is _ _ _ _ _ _ _ (by decide) (by decide) (fun e he => by
   obtain rfl := List.mem_singleton.1 he
   decide), tok_of_lt (by exact List.Pairwise.nil)]
  rfl
 obtain ⟨p, hp, hp1⟩ := Option.map_eq_some_iff.1 h1
 unfold interlocutorlaw6_known.f
 rw [Option.bind_some, hp, Option.bind_some, hp1]
 rw [show ([(⟨(⟨#[109, 97, 121]⟩ : ByteArray), 1, 5⟩ : S53)] : List (S53)) = kLex from rfl, known_toks, Option.bind_some]
 rw [h2]
 change _ = _
 kernel_rfl
end KN
theorem interlocutorlaw6_known.true_ (k : Nat) (r : Bool) (h : interlocutorlaw6_known.f k = some r) : r = true := by
 have h1 := at_rounds (fun k => interlocutorlaw6_known.mono k) (Nat.le_max_left k 30) h
 have h2 := at_rounds (fun k => interlocutorlaw6_known.mono k) (Nat.le_max_right k 30) KN.known_ok
 rw [h1] at h2
 exact Option.some.inj h2
set_option maxHeartbeats 8000000 in
set_option maxRecDepth 100000 in
theorem interlocutorlaw6_known.calls (k : Nat)  (r : Bool) (w : World) (h : interlocutorlaw6_known.f k  = some r) :
  Calls Try.prog 14 #[] w fun e w' => e = .returned (.bool r) ∧ Below w.heap.size w w' := by
 have HRT := Aside0.mk (interlocutorlaw6_known.true_ k r h)
 have hu53 := Try.underlying53
 have hu32 := Try.underlying32
 have HB := Aside0.mk (Below.refl w.heap.size w)
 have H : ((some (([(⟨(⟨#[109, 97, 121]⟩ : ByteArray), 1, 5⟩ : S53)] : List (S53)) : List (S53))).bind fun y167 => ((interlocutorref3_Fold.f k (⟨#[32, 49, 50, 109, 97, 121]⟩ : ByteArray)).bind fun bt171 => ((lex_Tokens.f (⟨#[]⟩ : ByteArray) 0 0 y167 ([] : List (S108)) ([] : List (S138)) bt171.1).bind fun t177 => ((lex_Ends.f bt171.1).bind fun t180 => ((lex_Tokens.f (⟨#[]⟩ : ByteArray) 0 0 y167 ([] : List (S108)) ([] : List (S138)) ([] : List Int)).bind fun t183 => (if (t183.length : Int) = 0 then (if (t177.length : Int) = 4 then (if 0 < (t177.length : Int) then (if ((rd_T47 t177 0).f1) = 3 then (if ((rd_T47 t177 0).f3) = 12 then (if 3 < (t177.length : Int) then (if ((rd_T47 t177 3).f2) = 1 then ((lex_At.f k t177 0).bind fun t189 => (if (t189.length : Int) = 1 then (if (t180.length : Int) = 7 then (if 6 < (t180.length : Int) then (if rdOf false t180 6 = true then (if 0 < (t180.length : Int) then (some (!(rdOf false t180 0))) else (none)) else (some false)) else (none)) else (some false)) else (some false))) else (some false)) else (none)) else (some false)) else (some false)) else (none)) else (some false)) else (some false))))))) = some r := h
 clear h
 obtain ⟨y167, hy167⟩ : ∃ y_ : List (S53), y_ = (([(⟨(⟨#[109, 97, 121]⟩ : ByteArray), 1, 5⟩ : S53)] : List (S53))) := ⟨_, rfl⟩
 replace H : ((interlocutorref3_Fold.f k (⟨#[32, 49, 50, 109, 97, 121]⟩ : ByteArray)).bind fun bt171 => ((lex_Tokens.f (⟨#[]⟩ : ByteArray) 0 0 y167 ([] : List (S108)) ([] : List (S138)) bt171.1).bind fun t177 => ((lex_Ends.f bt171.1).bind fun t180 => ((lex_Tokens.f (⟨#[]⟩ : ByteArray) 0 0 y167 ([] : List (S108)) ([] : List (S138)) ([] : List Int)).bind fun t183 => (if (t183.length : Int) = 0 then (if (t177.length : Int) = 4 then (if 0 < (t177.length : Int) then (if ((rd_T47 t177 0).f1) = 3 then (if ((rd_T47 t177 0).f3) = 12 then (if 3 < (t177.length : Int) then (if ((rd_T47 t177 3).f2) = 1 then ((lex_At.f k t177 0).bind fun t189 => (if (t189.length : Int) = 1 then (if (t180.length : Int) = 7 then (if 6 < (t180.length : Int) then (if rdOf false t180 6 = true then (if 0 < (t180.length : Int) then (some (!(rdOf false t180 0))) else (none)) else (some false)) else (none)) else (some false)) else (some false))) else (some false)) else (none)) else (some false)) else (some false)) else (none)) else (some false)) else (some false)))))) = some r := by first | (rw [hy167]; with_reducible exact H) | (have H2_ := (Option.bind_some _ _).symm.trans H; rw [hy167]; with_reducible exact H2_) | (have H2_ := (Option.bind_some _ _).symm.trans H; with_reducible exact H2_) | with_reducible exact H | (rw [hy167]; exact H) | exact H
 have Ny167 := Aside0.mk hy167
 clear hy167
 replace H := Option.bind_eq_some_iff.mp H
 obtain ⟨⟨t171, t172⟩, A10, H⟩ := H
 replace H : ((lex_Tokens.f (⟨#[]⟩ : ByteArray) 0 0 y167 ([] : List (S108)) ([] : List (S138)) t171).bind fun t177 => ((lex_Ends.f t171).bind fun t180 => ((lex_Tokens.f (⟨#[]⟩ : ByteArray) 0 0 y167 ([] : List (S108)) ([] : List (S138)) ([] : List Int)).bind fun t183 => (if (t183.length : Int) = 0 then (if (t177.length : Int) = 4 then (if 0 < (t177.length : Int) then (if ((rd_T47 t177 0).f1) = 3 then (if ((rd_T47 t177 0).f3) = 12 then (if 3 < (t177.length : Int) then (if ((rd_T47 t177 3).f2) = 1 then ((lex_At.f k t177 0).bind fun t189 => (if (t189.length : Int) = 1 then (if (t180.length : Int) = 7 then (if 6 < (t180.length : Int) then (if rdOf false t180 6 = true then (if 0 < (t180.length : Int) then (some (!(rdOf false t180 0))) else (none)) else (some false)) else (none)) else (some false)) else (some false))) else (some false)) else (none)) else (some false)) else (some false)) else (none)) else (some false)) else (some false))))) = some r := H
 have A1 := Aside0.mk A10
 clear A10
 replace H := Option.bind_eq_some_iff.mp H
 obtain ⟨t177, A20, H⟩ := H
 replace H : ((lex_Ends.f t171).bind fun t180 => ((lex_Tokens.f (⟨#[]⟩ : ByteArray) 0 0 y167 ([] : List (S108)) ([] : List (S138)) ([] : List Int)).bind fun t183 => (if (t183.length : Int) = 0 then (if (t177.length : Int) = 4 then (if 0 < (t177.length : Int) then (if ((rd_T47 t177 0).f1) = 3 then (if ((rd_T47 t177 0).f3) = 12 then (if 3 < (t177.length : Int) then (if ((rd_T47 t177 3).f2) = 1 then ((lex_At.f k t177 0).bind fun t189 => (if (t189.length : Int) = 1 then (if (t180.length : Int) = 7 then (if 6 < (t180.length : Int) then (if rdOf false t180 6 = true then (if 0 < (t180.length : Int) then (some (!(rdOf false t180 0))) else (none)) else (some false)) else (none)) else (some false)) else (some false))) else (some false)) else (none)) else (some false)) else (some false)) else (none)) else (some false)) else (some false)))) = some r := H
 have A2 := Aside0.mk A20
 clear A20
 replace H := Option.bind_eq_some_iff.mp H
 obtain ⟨t180, A30, H⟩ := H
 replace H : ((lex_Tokens.f (⟨#[]⟩ : ByteArray) 0 0 y167 ([] : List (S108)) ([] : List (S138)) ([] : List Int)).bind fun t183 => (if (t183.length : Int) = 0 then (if (t177.length : Int) = 4 then (if 0 < (t177.length : Int) then (if ((rd_T47 t177 0).f1) = 3 then (if ((rd_T47 t177 0).f3) = 12 then (if 3 < (t177.length : Int) then (if ((rd_T47 t177 3).f2) = 1 then ((lex_At.f k t177 0).bind fun t189 => (if (t189.length : Int) = 1 then (if (t180.length : Int) = 7 then (if 6 < (t180.length : Int) then (if rdOf false t180 6 = true then (if 0 < (t180.length : Int) then (some (!(rdOf false t180 0))) else (none)) else (some false)) else (none)) else (some false)) else (some false))) else (some false)) else (none)) else (some false)) else (some false)) else (none)) else (some false)) else (some false))) = some r := H
 have A3 := Aside0.mk A30
 clear A30
 replace H := Option.bind_eq_some_iff.mp H
 obtain ⟨t183, A40, H⟩ := H
 replace H : (if (t183.length : Int) = 0 then (if (t177.length : Int) = 4 then (if 0 < (t177.length : Int) then (if ((rd_T47 t177 0).f1) = 3 then (if ((rd_T47 t177 0).f3) = 12 then (if 3 < (t177.length : Int) then (if ((rd_T47 t177 3).f2) = 1 then ((lex_At.f k t177 0).bind fun t189 => (if (t189.length : Int) = 1 then (if (t180.length : Int) = 7 then (if 6 < (t180.length : Int) then (if rdOf false t180 6 = true then (if 0 < (t180.length : Int) then (some (!(rdOf false t180 0))) else (none)) else (some false)) else (none)) else (some false)) else (some false))) else (some false)) else (none)) else (some false)) else (some false)) else (none)) else (some false)) else (some false)) = some r := H
 have A4 := Aside0.mk A40
 clear A40
 by_cases c5 : (t183.length : Int) = 0
 ·rw [if_pos c5] at H
  have c5b0 : ((t183.length : Int) == 0) = true := beq_iff_eq.mpr c5
  have c5b1 : ((t183.length : Int) != 0) = false := bne_eq_false_iff_eq.mpr c5
  clear c5
  by_cases c6 : (t177.length : Int) = 4
  ·rw [if_pos c6] at H
   have c6b0 : ((t177.length : Int) == 4) = true := beq_iff_eq.mpr c6
   have c6b1 : ((t177.length : Int) != 4) = false := bne_eq_false_iff_eq.mpr c6
   clear c6
   by_cases c7 : 0 < (t177.length : Int)
   ·rw [if_pos c7] at H
    have c7b0 : decide (0 < (t177.length : Int)) = true := decide_eq_true c7
    have c7b1 : decide (0 < t177.length) = true := decide_eq_true (by omega)
    clear c7
    by_cases c8 : ((rd_T47 t177 0).f1) = 3
    ·rw [if_pos c8] at H
     have c8b0 : (((rd_T47 t177 0).f1) == 3) = true := beq_iff_eq.mpr c8
     have c8b1 : (((rd_T47 t177 0).f1) != 3) = false := bne_eq_false_iff_eq.mpr c8
     clear c8
     by_cases c9 : ((rd_T47 t177 0).f3) = 12
     ·rw [if_pos c9] at H
      have c9b0 : (((rd_T47 t177 0).f3) == 12) = true := beq_iff_eq.mpr c9
      have c9b1 : (((rd_T47 t177 0).f3) != 12) = false := bne_eq_false_iff_eq.mpr c9
      clear c9
      by_cases c10 : 3 < (t177.length : Int)
      ·rw [if_pos c10] at H
       have c10b0 : decide (3 < (t177.length : Int)) = true := decide_eq_true c10
       have c10b1 : decide (3 < t177.length) = true := decide_eq_true (by omega)
       clear c10
       by_cases c11 : ((rd_T47 t177 3).f2) = 1
       ·rw [if_pos c11] at H
        have c11b0 : (((rd_T47 t177 3).f2) == 1) = true := beq_iff_eq.mpr c11
        have c11b1 : (((rd_T47 t177 3).f2) != 1) = false := bne_eq_false_iff_eq.mpr c11
        clear c11
        replace H := Option.bind_eq_some_iff.mp H
        obtain ⟨t189, A120, H⟩ := H
        replace H : (if (t189.length : Int) = 1 then (if (t180.length : Int) = 7 then (if 6 < (t180.length : Int) then (if rdOf false t180 6 = true then (if 0 < (t180.length : Int) then (some (!(rdOf false t180 0))) else (none)) else (some false)) else (none)) else (some false)) else (some false)) = some r := H
        have A12 := Aside0.mk A120
        clear A120
        by_cases c13 : (t189.length : Int) = 1
        ·rw [if_pos c13] at H
         have c13b0 : ((t189.length : Int) == 1) = true := beq_iff_eq.mpr c13
         have c13b1 : ((t189.length : Int) != 1) = false := bne_eq_false_iff_eq.mpr c13
         clear c13
         by_cases c14 : (t180.length : Int) = 7
         ·rw [if_pos c14] at H
          have c14b0 : ((t180.length : Int) == 7) = true := beq_iff_eq.mpr c14
          have c14b1 : ((t180.length : Int) != 7) = false := bne_eq_false_iff_eq.mpr c14
          clear c14
          by_cases c15 : 6 < (t180.length : Int)
          ·rw [if_pos c15] at H
           have c15b0 : decide (6 < (t180.length : Int)) = true := decide_eq_true c15
           have c15b1 : decide (6 < t180.length) = true := decide_eq_true (by omega)
           clear c15
           obtain ⟨bq16, hbq16⟩ : ∃ b_ : Bool, b_ = (rdOf false t180 6) := ⟨_, rfl⟩
           replace H : (if bq16 = true then (if 0 < (t180.length : Int) then (some (!(rdOf false t180 0))) else (none)) else (some false)) = some r := by rw [← hbq16] at H; exact H
           have Nbq16 := Aside0.mk hbq16
           clear hbq16
           by_cases c17 : bq16 = true
           ·subst c17
            have H1 : (if 0 < (t180.length : Int) then (some (!(rdOf false t180 0))) else (none)) = some r := by rw [if_pos rfl] at H; exact H
            clear H
            have H := H1
            clear H1
            by_cases c18 : 0 < (t180.length : Int)
            ·rw [if_pos c18] at H
             have c18b0 : decide (0 < (t180.length : Int)) = true := decide_eq_true c18
             have c18b1 : decide (0 < t180.length) = true := decide_eq_true (by omega)
             clear c18
             obtain rfl := Option.some.inj H
             go_enter Try.func14, Try.ntmps14
             go_wp2_with (first | ((with_reducible refine gate_dst (N := 7) rfl ?_); (try (refine gate_guard (by rfl) ?_; dsimp only)); refine Kd.R_lit k53 _ 53 ?hg (N := 7) ?hd (xs := ([(⟨(⟨#[109, 97, 121]⟩ : ByteArray), 1, 5⟩ : S53)] : List (S53))) (inner := [.string (⟨#[109, 97, 121]⟩ : ByteArray), .int .i64 1, .int .i64 5]) (ok := fun _ => True) (okp := fun _ => True) ?hr ?hp (fun _ hk => hk) trivial (Below.refl _ _) (Nat.le_refl _) (by simp) ?_; (case hd => rfl); (case hg => rfl); (case hr => first | (go_simp; done) | (go_simp; rfl)); (case hp => exact (Reps.c3 (show Kd.M k53 _ _ _ (⟨(⟨#[109, 97, 121]⟩ : ByteArray), 1, 5⟩ : S53) [.string (⟨#[109, 97, 121]⟩ : ByteArray), .int .i64 1, .int .i64 5] from (k53_mkM _ _ _ (⟨(⟨#[109, 97, 121]⟩ : ByteArray), 1, 5⟩ : S53) )) (Reps.none _ _))); intro v168 w19 ho20 hb hg_ hnew_; clear hg_ hnew_; (first | rw [← Ny167.out] at ho20 | (simp only [Int.reduceToNat] at ho20; rw [← Ny167.out] at ho20)); have n0_ := Aside0.mk (Kd.R_lower ho20 (below_size (by exact wU HB.out))); have n1_ := Aside0.mk (below_step (by exact wU HB.out) hb); clear HB; have HO169 := n0_; have HB := n1_; clear n0_ n1_; clear hb ho20; obtain ⟨Ao21, co21, eo21⟩ := Kd.R_slice HO169.out; subst eo21) | ((with_reducible refine gate_dst (N := 1) rfl ?_); (try (refine gate_guard (by rfl) ?_; dsimp only)); refine box_event ?hg (N := 1) ?hd (cs := #[.string (⟨#[]⟩ : ByteArray), .int .i64 0, .int .i64 0, .slice none 0 0, .slice none 0 0, .slice none 0 0]) (t := 32) ?hr ?_; (case hd => rfl); (case hg => rfl); (case hr => first | (go_simp; done) | (go_simp; rfl)); intro gb170 hg w22 hbox hb; have n0_ := Aside0.mk (Kd.R_below (by exact rU HO169.out) hb); have n1_ := Aside0.mk (below_step (by exact wU HB.out) hb); have n2_ := Aside0.mk (hbox); have n3_ := Aside0.mk ((by rw [hg]; exact (below_size (by exact wU HB.out)) : w.heap.size ≤ gb170)); have n4_ := Aside0.mk ((by rw [hg]; exact (below_size (by exact wU HB.out)) : w.heap.size ≤ gb170)); clear HO169; clear HB; have HO169 := n0_; have HB := n1_; have BK170 := n2_; have GW170 := n3_; have GE170 := n4_; clear n0_ n1_ n2_ n3_ n4_; clear hb hbox hg; have hcz23_0 : w22.cell? ⟨gb170, 0, none⟩ = some (.string (⟨#[]⟩ : ByteArray)) := (blk_cell BK170.out 0).trans rfl; have hcz23_1 : w22.cell? ⟨gb170, 1, none⟩ = some (.int .i64 0) := (blk_cell BK170.out 1).trans rfl; have hcz23_2 : w22.cell? ⟨gb170, 2, none⟩ = some (.int .i64 0) := (blk_cell BK170.out 2).trans rfl; have hcz23_3 : w22.cell? ⟨gb170, 3, none⟩ = some (.slice none 0 0) := (blk_cell BK170.out 3).trans rfl; have hcz23_4 : w22.cell? ⟨gb170, 4, none⟩ = some (.slice none 0 0) := (blk_cell BK170.out 4).trans rfl; have hcz23_5 : w22.cell? ⟨gb170, 5, none⟩ = some (.slice none 0 0) := (blk_cell BK170.out 5).trans rfl; have hfz23_0 := blk_frozen BK170.out 0; have hfz23_1 := blk_frozen BK170.out 1; have hfz23_2 := blk_frozen BK170.out 2; have hfz23_3 := blk_frozen BK170.out 3; have hfz23_4 := blk_frozen BK170.out 4; have hfz23_5 := blk_frozen BK170.out 5) | ((with_reducible refine gate_callee (f := 19) rfl ?_); refine goesL_ (some 10) rfl rfl Try.func19 (by kernel_rfl) rfl #[.string (⟨#[32, 49, 50, 109, 97, 121]⟩ : ByteArray)] rfl (by (try simp only [List.map_toArray, List.map_cons, List.map_nil]); first | done | rfl | (simp only [List.length_drop, List.length_take]; rfl)) ?_; (with_reducible refine (interlocutorref3_Fold.calls k (⟨#[32, 49, 50, 109, 97, 121]⟩ : ByteArray) t171 t172 _ A1.out).mono ?_); rintro e w24 ⟨v173, v175, rfl, ho0, ho1, hb⟩; refine ⟨_, rfl, ?_⟩; have n0_ := Aside0.mk (Kd.R_below (by exact rU ((Kd.R_mono (Kd.R_far (p := ⟨gb170, 5, none⟩) (Kd.R_far (p := ⟨gb170, 4, none⟩) (Kd.R_far (p := ⟨gb170, 3, none⟩) (Kd.R_far (p := ⟨gb170, 2, none⟩) (Kd.R_far (p := ⟨gb170, 1, none⟩) (Kd.R_far (p := ⟨gb170, 0, none⟩) (Kd.R_types HO169.out BK170.out (by decide)) (fun _ hk => hk.2) (.string (⟨#[]⟩ : ByteArray))) (fun _ hk => hk.2) (.int .i64 0)) (fun _ hk => hk.2) (.int .i64 0)) (fun _ hk => hk.2) (.slice Ao21 y167.length co21)) (fun _ hk => hk.2) (.slice none 0 0)) (fun _ hk => hk.2) (.slice none 0 0)) (fun _ h_ => h_.1)))) hb); have n1_ := Aside0.mk (Kd.R_lower ho0 (below_size (by exact wS HB.out GE170.out))); have n2_ := Aside0.mk (Kd.R_lower ho1 (below_size (by exact wS HB.out GE170.out))); have n3_ := Aside0.mk (blk_below (g := gb170) (o := .cells #[.string (⟨#[]⟩ : ByteArray), .int .i64 0, .int .i64 0, .slice Ao21 y167.length co21, .slice none 0 0, .slice none 0 0] 32 (0, 0)) (by (with_reducible repeat (first | refine blk_drewN ?_ _ | refine blk_drew ?_ | refine blk_alloc ?_ _)); refine blk_put (cs := #[.string (⟨#[]⟩ : ByteArray), .int .i64 0, .int .i64 0, .slice Ao21 y167.length co21, .slice none 0 0, .slice none 0 0]) ?_ 5 _ rfl; (with_reducible repeat (first | refine blk_drewN ?_ _ | refine blk_drew ?_ | refine blk_alloc ?_ _)); refine blk_put (cs := #[.string (⟨#[]⟩ : ByteArray), .int .i64 0, .int .i64 0, .slice Ao21 y167.length co21, .slice none 0 0, .slice none 0 0]) ?_ 4 _ rfl; (with_reducible repeat (first | refine blk_drewN ?_ _ | refine blk_drew ?_ | refine blk_alloc ?_ _)); refine blk_put (cs := #[.string (⟨#[]⟩ : ByteArray), .int .i64 0, .int .i64 0, .slice none 0 0, .slice none 0 0, .slice none 0 0]) ?_ 3 _ rfl; (with_reducible repeat (first | refine blk_drewN ?_ _ | refine blk_drew ?_ | refine blk_alloc ?_ _)); refine blk_put (cs := #[.string (⟨#[]⟩ : ByteArray), .int .i64 0, .int .i64 0, .slice none 0 0, .slice none 0 0, .slice none 0 0]) ?_ 2 _ rfl; (with_reducible repeat (first | refine blk_drewN ?_ _ | refine blk_drew ?_ | refine blk_alloc ?_ _)); refine blk_put (cs := #[.string (⟨#[]⟩ : ByteArray), .int .i64 0, .int .i64 0, .slice none 0 0, .slice none 0 0, .slice none 0 0]) ?_ 1 _ rfl; (with_reducible repeat (first | refine blk_drewN ?_ _ | refine blk_drew ?_ | refine blk_alloc ?_ _)); refine blk_put (cs := #[.string (⟨#[]⟩ : ByteArray), .int .i64 0, .int .i64 0, .slice none 0 0, .slice none 0 0, .slice none 0 0]) ?_ 0 _ rfl; (with_reducible repeat (first | refine blk_drewN ?_ _ | refine blk_drew ?_ | refine blk_alloc ?_ _)); exact BK170.out) hb); have n4_ := Aside0.mk (below_step (by exact wS HB.out GE170.out) hb); clear HO169; clear BK170; clear HB; have HO169 := n0_; have HO174 := n1_; have HO176 := n2_; have BK170 := n3_; have HB := n4_; clear n0_ n1_ n2_ n3_ n4_; (try clear hb); (try clear hb2); (try clear hk); (try clear hi); (try clear ho0); (try clear ho1); have hcz25_0 : w24.cell? ⟨gb170, 0, none⟩ = some (.string (⟨#[]⟩ : ByteArray)) := (blk_cell BK170.out 0).trans rfl; have hcz25_1 : w24.cell? ⟨gb170, 1, none⟩ = some (.int .i64 0) := (blk_cell BK170.out 1).trans rfl; have hcz25_2 : w24.cell? ⟨gb170, 2, none⟩ = some (.int .i64 0) := (blk_cell BK170.out 2).trans rfl; have hcz25_3 : w24.cell? ⟨gb170, 3, none⟩ = some (.slice Ao21 y167.length co21) := (blk_cell BK170.out 3).trans rfl; have hcz25_4 : w24.cell? ⟨gb170, 4, none⟩ = some (.slice none 0 0) := (blk_cell BK170.out 4).trans rfl; have hcz25_5 : w24.cell? ⟨gb170, 5, none⟩ = some (.slice none 0 0) := (blk_cell BK170.out 5).trans rfl; have hfz25_0 := blk_frozen BK170.out 0; have hfz25_1 := blk_frozen BK170.out 1; have hfz25_2 := blk_frozen BK170.out 2; have hfz25_3 := blk_frozen BK170.out 3; have hfz25_4 := blk_frozen BK170.out 4; have hfz25_5 := blk_frozen BK170.out 5; obtain ⟨Ao26, co26, eo26⟩ := Kd.R_slice HO174.out; subst eo26) | ((with_reducible refine gate_callee (f := 20) rfl ?_); refine goesL_ (some 15) rfl rfl Try.func20 (by kernel_rfl) rfl #[.agg #[.string (⟨#[]⟩ : ByteArray), .int .i64 0, .int .i64 0, .slice Ao21 y167.length co21, .slice none 0 0, .slice none 0 0], .slice Ao26 t171.length co26] rfl (by (try simp only [List.map_toArray, List.map_cons, List.map_nil]); first | done | rfl | (simp only [List.length_drop, List.length_take]; rfl)) ?_; (refine (lex_Tokens.calls (⟨#[]⟩ : ByteArray) 0 0 _ _ y167 _ _ ([] : List (S108)) _ _ ([] : List (S138)) _ _ t171 t177 _ ?side1 ?side2 ?side3 ?side4 ?side5 ?side6 ?side7 ?side8 A2.out).mono ?_); (case side1 => repeat (first | exact (Kd.R_reads' HO169.out).2.2 | (with_reducible refine Kd.C_alloc ?_ _) | (with_reducible refine Kd.C_drewN ?_ _) | (with_reducible refine Kd.C_drew ?_))); (case side2 => exact (Kd.R_reads' HO169.out).2.1); (case side3 => exact Kd.C_nil _ _); (case side4 => exact Nat.le_refl _); (case side5 => exact Kd.C_nil _ _); (case side6 => exact Nat.le_refl _); (case side7 => repeat (first | exact (Kd.R_reads' HO174.out).2.2 | (with_reducible refine Kd.C_alloc ?_ _) | (with_reducible refine Kd.C_drewN ?_ _) | (with_reducible refine Kd.C_drew ?_))); (case side8 => exact (Kd.R_reads' HO174.out).2.1); rintro e w27 ⟨v178, rfl, ho0, hb⟩; refine ⟨_, rfl, ?_⟩; have n0_ := Aside0.mk (Kd.R_below (by exact rU HO169.out) hb); have n1_ := Aside0.mk (Kd.R_below (by exact rU HO174.out) hb); have n2_ := Aside0.mk (Kd.R_below (by exact rU HO176.out) hb); have n3_ := Aside0.mk (Kd.R_lower ho0 (below_size (by exact wS HB.out GE170.out))); have n4_ := Aside0.mk (blk_below (g := gb170) (o := .cells #[.string (⟨#[]⟩ : ByteArray), .int .i64 0, .int .i64 0, .slice Ao21 y167.length co21, .slice none 0 0, .slice none 0 0] 32 (0, 0)) (by (with_reducible repeat (first | refine blk_drewN ?_ _ | refine blk_drew ?_ | refine blk_alloc ?_ _)); exact BK170.out) hb); have n5_ := Aside0.mk (below_step (by exact wS HB.out GE170.out) hb); clear HO169; clear HO174; clear HO176; clear BK170; clear HB; have HO169 := n0_; have HO174 := n1_; have HO176 := n2_; have HO179 := n3_; have BK170 := n4_; have HB := n5_; clear n0_ n1_ n2_ n3_ n4_ n5_; (try clear hb); (try clear hb2); (try clear hk); (try clear hi); (try clear ho0)) | ((with_reducible refine gate_callee (f := 22) rfl ?_); refine goesL_ (some 17) rfl rfl Try.func22 (by kernel_rfl) rfl #[.slice Ao26 t171.length co26] rfl (by (try simp only [List.map_toArray, List.map_cons, List.map_nil]); first | done | rfl | (simp only [List.length_drop, List.length_take]; rfl)) ?_; (with_reducible refine (lex_Ends.calls _ _ t171 t180 _ ?side1 ?side2 A3.out).mono ?_); (case side1 => repeat (first | exact (Kd.R_reads' HO174.out).2.2 | (with_reducible refine Kd.C_alloc ?_ _) | (with_reducible refine Kd.C_drewN ?_ _) | (with_reducible refine Kd.C_drew ?_))); (case side2 => exact (Kd.R_reads' HO174.out).2.1); rintro e w28 ⟨v181, rfl, ho0, hb⟩; refine ⟨_, rfl, ?_⟩; have n0_ := Aside0.mk (Kd.R_below (by exact rU HO169.out) hb); have n1_ := Aside0.mk (Kd.R_below (by exact rU HO174.out) hb); have n2_ := Aside0.mk (Kd.R_below (by exact rU HO176.out) hb); have n3_ := Aside0.mk (Kd.R_below (by exact rU HO179.out) hb); have n4_ := Aside0.mk (Kd.R_lower ho0 (below_size (by exact wS HB.out GE170.out))); have n5_ := Aside0.mk (blk_below (g := gb170) (o := .cells #[.string (⟨#[]⟩ : ByteArray), .int .i64 0, .int .i64 0, .slice Ao21 y167.length co21, .slice none 0 0, .slice none 0 0] 32 (0, 0)) (by (with_reducible repeat (first | refine blk_drewN ?_ _ | refine blk_drew ?_ | refine blk_alloc ?_ _)); exact BK170.out) hb); have n6_ := Aside0.mk (below_step (by exact wS HB.out GE170.out) hb); clear HO169; clear HO174; clear HO176; clear HO179; clear BK170; clear HB; have HO169 := n0_; have HO174 := n1_; have HO176 := n2_; have HO179 := n3_; have HO182 := n4_; have BK170 := n5_; have HB := n6_; clear n0_ n1_ n2_ n3_ n4_ n5_ n6_; (try clear hb); (try clear hb2); (try clear hk); (try clear hi); (try clear ho0); have hcz29_0 : w28.cell? ⟨gb170, 0, none⟩ = some (.string (⟨#[]⟩ : ByteArray)) := (blk_cell BK170.out 0).trans rfl; have hcz29_1 : w28.cell? ⟨gb170, 1, none⟩ = some (.int .i64 0) := (blk_cell BK170.out 1).trans rfl; have hcz29_2 : w28.cell? ⟨gb170, 2, none⟩ = some (.int .i64 0) := (blk_cell BK170.out 2).trans rfl; have hcz29_3 : w28.cell? ⟨gb170, 3, none⟩ = some (.slice Ao21 y167.length co21) := (blk_cell BK170.out 3).trans rfl; have hcz29_4 : w28.cell? ⟨gb170, 4, none⟩ = some (.slice none 0 0) := (blk_cell BK170.out 4).trans rfl; have hcz29_5 : w28.cell? ⟨gb170, 5, none⟩ = some (.slice none 0 0) := (blk_cell BK170.out 5).trans rfl; have hfz29_0 := blk_frozen BK170.out 0; have hfz29_1 := blk_frozen BK170.out 1; have hfz29_2 := blk_frozen BK170.out 2; have hfz29_3 := blk_frozen BK170.out 3; have hfz29_4 := blk_frozen BK170.out 4; have hfz29_5 := blk_frozen BK170.out 5) | ((with_reducible refine gate_callee (f := 20) rfl ?_); refine goesL_ (some 19) rfl rfl Try.func20 (by kernel_rfl) rfl #[.agg #[.string (⟨#[]⟩ : ByteArray), .int .i64 0, .int .i64 0, .slice Ao21 y167.length co21, .slice none 0 0, .slice none 0 0], .slice none 0 0] rfl (by (try simp only [List.map_toArray, List.map_cons, List.map_nil]); first | done | rfl | (simp only [List.length_drop, List.length_take]; rfl)) ?_; (refine (lex_Tokens.calls (⟨#[]⟩ : ByteArray) 0 0 _ _ y167 _ _ ([] : List (S108)) _ _ ([] : List (S138)) _ _ ([] : List Int) t183 _ ?side1 ?side2 ?side3 ?side4 ?side5 ?side6 ?side7 ?side8 A4.out).mono ?_); (case side1 => repeat (first | exact (Kd.R_reads' HO169.out).2.2 | (with_reducible refine Kd.C_alloc ?_ _) | (with_reducible refine Kd.C_drewN ?_ _) | (with_reducible refine Kd.C_drew ?_))); (case side2 => exact (Kd.R_reads' HO169.out).2.1); (case side3 => exact Kd.C_nil _ _); (case side4 => exact Nat.le_refl _); (case side5 => exact Kd.C_nil _ _); (case side6 => exact Nat.le_refl _); (case side7 => exact Kd.C_nil _ _); (case side8 => exact Nat.le_refl _); rintro e w30 ⟨v184, rfl, ho0, hb⟩; refine ⟨_, rfl, ?_⟩; have n0_ := Aside0.mk (Kd.R_below (by exact rU HO169.out) hb); have n1_ := Aside0.mk (Kd.R_below (by exact rU HO174.out) hb); have n2_ := Aside0.mk (Kd.R_below (by exact rU HO176.out) hb); have n3_ := Aside0.mk (Kd.R_elder' (by exact rU HO179.out) (Kd.R_base ho0) hb); have n4_ := Aside0.mk (Kd.R_below (by exact rU HO182.out) hb); have n5_ := Aside0.mk (Kd.R_lower (Kd.R_new' ho0 (Kd.R_lt (by exact rU HO179.out))) (below_size (by exact wS HB.out GE170.out))); have n6_ := Aside0.mk (blk_below (g := gb170) (o := .cells #[.string (⟨#[]⟩ : ByteArray), .int .i64 0, .int .i64 0, .slice Ao21 y167.length co21, .slice none 0 0, .slice none 0 0] 32 (0, 0)) (by (with_reducible repeat (first | refine blk_drewN ?_ _ | refine blk_drew ?_ | refine blk_alloc ?_ _)); exact BK170.out) hb); have n7_ := Aside0.mk (below_step (by exact wS HB.out GE170.out) hb); clear HO169; clear HO174; clear HO176; clear HO179; clear HO182; clear BK170; clear HB; have HO169 := n0_; have HO174 := n1_; have HO176 := n2_; have HO179 := n3_; have HO182 := n4_; have HO185 := n5_; have BK170 := n6_; have HB := n7_; clear n0_ n1_ n2_ n3_ n4_ n5_ n6_ n7_; (try clear hb); (try clear hb2); (try clear hk); (try clear hi); (try clear ho0); obtain ⟨Ao31, co31, eo31⟩ := Kd.R_slice HO185.out; subst eo31; obtain ⟨Ao32, co32, eo32⟩ := Kd.R_slice HO179.out; subst eo32; have p186 : 0 ≤ (0 : Int) := (by omega); have q186 : 0 < (t177.length : Int) := of_decide_eq_true (by first | (with_reducible assumption) | assumption); obtain ⟨ad186, e186, hx186_0, hx186_1, hx186_2, hx186_3, hx186_4⟩ := at_T47 (Kd.R_reads' HO179.out).2.2 0 p186 q186; cases e186; have qi186 : (0 < t177.length) = True := eq_true (by omega); (try rw [show ((0 : Int)).toNat = 0 from rfl] at hx186_0); (try rw [show 0 * 5 = 0 from rfl] at hx186_0); (try rw [Addr.add_zero'] at hx186_0); (try rw [show ((0 : Int)).toNat = 0 from rfl] at hx186_1); (try rw [show 0 * 5 = 0 from rfl] at hx186_1); (try rw [Addr.add_zero'] at hx186_1); (try rw [show ((0 : Int)).toNat = 0 from rfl] at hx186_2); (try rw [show 0 * 5 = 0 from rfl] at hx186_2); (try rw [Addr.add_zero'] at hx186_2); (try rw [show ((0 : Int)).toNat = 0 from rfl] at hx186_3); (try rw [show 0 * 5 = 0 from rfl] at hx186_3); (try rw [Addr.add_zero'] at hx186_3); (try rw [show ((0 : Int)).toNat = 0 from rfl] at hx186_4); (try rw [show 0 * 5 = 0 from rfl] at hx186_4); (try rw [Addr.add_zero'] at hx186_4); replace p186 := eq_true p186; replace q186 := eq_true q186; have p187 : 0 ≤ (0 : Int) := (by omega); have q187 : 0 < (t177.length : Int) := of_decide_eq_true (by first | (with_reducible assumption) | assumption); obtain ⟨ad187, e187, hx187_0, hx187_1, hx187_2, hx187_3, hx187_4⟩ := at_T47 (Kd.R_reads' HO179.out).2.2 0 p187 q187; obtain rfl : ad186 = ad187 := (by injection e187); have qi187 : (0 < t177.length) = True := eq_true (by omega); (try rw [show ((0 : Int)).toNat = 0 from rfl] at hx187_0); (try rw [show 0 * 5 = 0 from rfl] at hx187_0); (try rw [Addr.add_zero'] at hx187_0); (try rw [show ((0 : Int)).toNat = 0 from rfl] at hx187_1); (try rw [show 0 * 5 = 0 from rfl] at hx187_1); (try rw [Addr.add_zero'] at hx187_1); (try rw [show ((0 : Int)).toNat = 0 from rfl] at hx187_2); (try rw [show 0 * 5 = 0 from rfl] at hx187_2); (try rw [Addr.add_zero'] at hx187_2); (try rw [show ((0 : Int)).toNat = 0 from rfl] at hx187_3); (try rw [show 0 * 5 = 0 from rfl] at hx187_3); (try rw [Addr.add_zero'] at hx187_3); (try rw [show ((0 : Int)).toNat = 0 from rfl] at hx187_4); (try rw [show 0 * 5 = 0 from rfl] at hx187_4); (try rw [Addr.add_zero'] at hx187_4); replace p187 := eq_true p187; replace q187 := eq_true q187; have p188 : 0 ≤ (3 : Int) := (by omega); have q188 : 3 < (t177.length : Int) := of_decide_eq_true (by first | (with_reducible assumption) | assumption); obtain ⟨ad188, e188, hx188_0, hx188_1, hx188_2, hx188_3, hx188_4⟩ := at_T47 (Kd.R_reads' HO179.out).2.2 3 p188 q188; obtain rfl : ad186 = ad188 := (by injection e188); (try simp only [show (3 : Int).toNat = 3 from rfl, Nat.reduceMul, Nat.reduceEqDiff, Go.Addr.add, ↓reduceIte] at hx188_0); (try simp only [show (3 : Int).toNat = 3 from rfl, Nat.reduceMul, Nat.reduceEqDiff, Go.Addr.add, ↓reduceIte] at hx188_1); (try simp only [show (3 : Int).toNat = 3 from rfl, Nat.reduceMul, Nat.reduceEqDiff, Go.Addr.add, ↓reduceIte] at hx188_2); (try simp only [show (3 : Int).toNat = 3 from rfl, Nat.reduceMul, Nat.reduceEqDiff, Go.Addr.add, ↓reduceIte] at hx188_3); (try simp only [show (3 : Int).toNat = 3 from rfl, Nat.reduceMul, Nat.reduceEqDiff, Go.Addr.add, ↓reduceIte] at hx188_4); have qi188 : (3 < t177.length) = True := eq_true (by omega); (try rw [show ((3 : Int)).toNat = 3 from rfl] at hx188_0); (try rw [show 3 * 5 = 15 from rfl] at hx188_0); (try rw [show ((3 : Int)).toNat = 3 from rfl] at hx188_1); (try rw [show 3 * 5 = 15 from rfl] at hx188_1); (try rw [show ((3 : Int)).toNat = 3 from rfl] at hx188_2); (try rw [show 3 * 5 = 15 from rfl] at hx188_2); (try rw [show ((3 : Int)).toNat = 3 from rfl] at hx188_3); (try rw [show 3 * 5 = 15 from rfl] at hx188_3); (try rw [show ((3 : Int)).toNat = 3 from rfl] at hx188_4); (try rw [show 3 * 5 = 15 from rfl] at hx188_4); replace p188 := eq_true p188; replace q188 := eq_true q188) | (go_at_call 25; (with_reducible refine (lex_At.calls k _ _ t177 0 t189 _ ?side1 ?side2 A12.out).mono ?_); (case side1 => repeat (first | exact (Kd.R_reads' HO179.out).2.2 | (with_reducible refine Kd.C_alloc ?_ _) | (with_reducible refine Kd.C_drewN ?_ _) | (with_reducible refine Kd.C_drew ?_))); (case side2 => exact (Kd.R_reads' HO179.out).2.1); rintro e w33 ⟨v190, rfl, ho0, hb⟩; have n0_ := Aside0.mk (Kd.R_below (by exact rU HO169.out) hb); have n1_ := Aside0.mk (Kd.R_below (by exact rU HO174.out) hb); have n2_ := Aside0.mk (Kd.R_below (by exact rU HO176.out) hb); have n3_ := Aside0.mk (Kd.R_elder' (by exact rU HO179.out) (Kd.R_base ho0) hb); have n4_ := Aside0.mk (Kd.R_below (by exact rU HO182.out) hb); have n5_ := Aside0.mk (Kd.R_elder' (by exact rU HO185.out) (Kd.R_base ho0) hb); have n6_ := Aside0.mk (Kd.R_lower (Kd.R_new' (Kd.R_new' ho0 (Kd.R_lt (by exact rU HO179.out))) (Kd.R_lt (by exact rU HO185.out))) (below_size (by exact wS HB.out GE170.out))); have n7_ := Aside0.mk (blk_below (g := gb170) (o := .cells #[.string (⟨#[]⟩ : ByteArray), .int .i64 0, .int .i64 0, .slice Ao21 y167.length co21, .slice none 0 0, .slice none 0 0] 32 (0, 0)) (by (with_reducible repeat (first | refine blk_drewN ?_ _ | refine blk_drew ?_ | refine blk_alloc ?_ _)); exact BK170.out) hb); have n8_ := Aside0.mk (below_step (by exact wS HB.out GE170.out) hb); clear HO169; clear HO174; clear HO176; clear HO179; clear HO182; clear HO185; clear BK170; clear HB; have HO169 := n0_; have HO174 := n1_; have HO176 := n2_; have HO179 := n3_; have HO182 := n4_; have HO185 := n5_; have HO191 := n6_; have BK170 := n7_; have HB := n8_; clear n0_ n1_ n2_ n3_ n4_ n5_ n6_ n7_ n8_; (try clear hb); (try clear hb2); (try clear hk); (try clear hi); (try clear ho0); obtain ⟨Ao34, co34, eo34⟩ := Kd.R_slice HO191.out; subst eo34; obtain ⟨Ao35, co35, eo35⟩ := Kd.R_slice HO182.out; subst eo35; have p192 : 0 ≤ (6 : Int) := (by omega); have q192 : 6 < (t180.length : Int) := of_decide_eq_true (by first | (with_reducible assumption) | assumption); obtain ⟨ad192, e192, hx192_0⟩ := Kd.at_bool (Kd.R_reads' HO182.out).2.2 6 p192 q192; (try rw [← Nbq16.out] at hx192_0); cases e192; (try simp only [show (6 : Int).toNat = 6 from rfl, Nat.reduceMul, Nat.reduceEqDiff, Go.Addr.add, ↓reduceIte] at hx192_0); have qi192 : (6 < t180.length) = True := eq_true (by omega); (try rw [show ((6 : Int)).toNat = 6 from rfl] at hx192_0); replace p192 := eq_true p192; replace q192 := eq_true q192; have p193 : 0 ≤ (0 : Int) := (by omega); have q193 : 0 < (t180.length : Int) := of_decide_eq_true (by first | (with_reducible assumption) | assumption); obtain ⟨ad193, e193, hx193_0⟩ := Kd.at_bool (Kd.R_reads' HO182.out).2.2 0 p193 q193; (try rw [← Nbq16.out] at hx193_0); obtain rfl : ad192 = ad193 := (by injection e193); have qi193 : (0 < t180.length) = True := eq_true (by omega); (try rw [show ((0 : Int)).toNat = 0 from rfl] at hx193_0); (try rw [Addr.add_zero'] at hx193_0); replace p193 := eq_true p193; replace q193 := eq_true q193))
             go_ret
             exact ⟨by first | rfl | (simp [errW_none, errW_some] <;> rfl) | (simp [*, errW_none, errW_some] <;> rfl), by exact wS HB.out GE170.out⟩
            ·rw [if_neg c18] at H
             exact absurd H (by simp)
           ·replace c17 := Bool.eq_false_iff.mpr c17
            subst c17
            have H1 : (some false) = some r := by rw [if_neg (show ¬ (false = true) by decide)] at H; exact H
            clear H
            have H := H1
            clear H1
            exact absurd ((Option.some.inj H).trans HRT.out) (by decide)
          ·rw [if_neg c15] at H
           exact absurd H (by simp)
         ·rw [if_neg c14] at H
          have c14b0 : ((t180.length : Int) == 7) = false := beq_eq_false_iff_ne.mpr c14
          have c14b1 : ((t180.length : Int) != 7) = true := bne_iff_ne.mpr c14
          exact absurd ((Option.some.inj H).trans HRT.out) (by decide)
        ·rw [if_neg c13] at H
         have c13b0 : ((t189.length : Int) == 1) = false := beq_eq_false_iff_ne.mpr c13
         have c13b1 : ((t189.length : Int) != 1) = true := bne_iff_ne.mpr c13
         exact absurd ((Option.some.inj H).trans HRT.out) (by decide)
       ·rw [if_neg c11] at H
        have c11b0 : (((rd_T47 t177 3).f2) == 1) = false := beq_eq_false_iff_ne.mpr c11
        have c11b1 : (((rd_T47 t177 3).f2) != 1) = true := bne_iff_ne.mpr c11
        exact absurd ((Option.some.inj H).trans HRT.out) (by decide)
      ·rw [if_neg c10] at H
       exact absurd H (by simp)
     ·rw [if_neg c9] at H
      have c9b0 : (((rd_T47 t177 0).f3) == 12) = false := beq_eq_false_iff_ne.mpr c9
      have c9b1 : (((rd_T47 t177 0).f3) != 12) = true := bne_iff_ne.mpr c9
      exact absurd ((Option.some.inj H).trans HRT.out) (by decide)
    ·rw [if_neg c8] at H
     have c8b0 : (((rd_T47 t177 0).f1) == 3) = false := beq_eq_false_iff_ne.mpr c8
     have c8b1 : (((rd_T47 t177 0).f1) != 3) = true := bne_iff_ne.mpr c8
     exact absurd ((Option.some.inj H).trans HRT.out) (by decide)
   ·rw [if_neg c7] at H
    exact absurd H (by simp)
  ·rw [if_neg c6] at H
   have c6b0 : ((t177.length : Int) == 4) = false := beq_eq_false_iff_ne.mpr c6
   have c6b1 : ((t177.length : Int) != 4) = true := bne_iff_ne.mpr c6
   exact absurd ((Option.some.inj H).trans HRT.out) (by decide)
 ·rw [if_neg c5] at H
  have c5b0 : ((t183.length : Int) == 0) = false := beq_eq_false_iff_ne.mpr c5
  have c5b1 : ((t183.length : Int) != 0) = true := bne_iff_ne.mpr c5
  have c5b2 : ¬ (t183 = []) := fun h_ => c5 (by rw [h_]; rfl)
  exact absurd ((Option.some.inj H).trans HRT.out) (by decide)
end Go.Proofs.Ytgbnfjhmobeloaa.G
