import Derived.Test.YtgbnfjhmobeloaaGx0
namespace Go.Proofs.Ytgbnfjhmobeloaa.G
open Go.RowKit Go.Proofs.YtgbnfjhmobeloaaW.PrintWords Go.Proofs.YtgbnfjhmobeloaaW.PrintLast Go.Proofs.YtgbnfjhmobeloaaW.PrintMore Go.Proofs.YtgbnfjhmobeloaaW.VWords
attribute [local go_sem] max2_int min2_int max_two min_two max_three min_three max_four min_four
set_option linter.unusedVariables false
set_option linter.unusedSimpArgs false
def interlocutorlaw4_Few.l0 : Nat → List (S85) → Int → Option (Bool)
 | 0, _, _ => none
 | k + 1, x0, x3 => if x3 < (x0.length : Int) then (if 0 ≤ x3 then (if (((rd_T85 x0 x3).f3).length : Int) > 20 then (some false) else (if (((rd_T85 x0 x3).f4).length : Int) > 20 then (some false) else (interlocutorlaw4_Few.l0 k x0 (wrap64 (x3 + 1))))) else (none)) else (some (decide ((x0.length : Int) ≤ 80)))
def interlocutorlaw4_Few.f (k : Nat) (l0 : List (S85)) : Option (Bool) := interlocutorlaw4_Few.l0 k l0 0
theorem interlocutorlaw4_Few.mono_l : ∀ k, (∀ y0 y1, LeO (interlocutorlaw4_Few.l0 k y0 y1) (interlocutorlaw4_Few.l0 (k + 1) y0 y1))
 | 0 => fun _ _ r h => by simp [interlocutorlaw4_Few.l0] at h
 | k + 1 => by
  have ih0 := interlocutorlaw4_Few.mono_l k
  ·intro y0 y1
   unfold interlocutorlaw4_Few.l0
   repeat' first
   | (with_reducible exact ih0 _ _)
   | (with_reducible exact LeO.refl _)
   | (with_reducible exact LeO.none _)
   | (with_reducible refine LeO.ite ?_ ?_)
   | (with_reducible refine LeO.bind ?_ (fun _ => ?_))
   | exact ih0 _ _
   | exact LeO.none _
   | refine LeO.ite ?_ ?_
   | refine LeO.bind ?_ (fun _ => ?_)
theorem interlocutorlaw4_Few.mono : ∀ a0 k, LeO (interlocutorlaw4_Few.f k a0) (interlocutorlaw4_Few.f (k + 1) a0) := by
 intro a0 k
 have ih0 := interlocutorlaw4_Few.mono_l k
 unfold interlocutorlaw4_Few.f
 repeat' first
   | (with_reducible exact ih0 _ _)
   | (with_reducible exact LeO.refl _)
   | (with_reducible exact LeO.none _)
   | (with_reducible refine LeO.ite ?_ ?_)
   | (with_reducible refine LeO.bind ?_ (fun _ => ?_))
   | exact ih0 _ _
   | exact LeO.none _
   | refine LeO.ite ?_ ?_
   | refine LeO.bind ?_ (fun _ => ?_)
set_option maxHeartbeats 8000000 in
set_option maxRecDepth 100000 in
theorem interlocutorlaw4_Few.calls (k : Nat) (A0 : Option Addr) (c0 : Nat) (l0 : List (S85)) (r : Bool) (w : World) (hr0 : Kd.C k85 w A0 l0.length l0) (hc0 : l0.length ≤ c0) (h : interlocutorlaw4_Few.f k l0 = some r) :
  Calls Try.prog 30 #[.slice A0 l0.length c0] w fun e w' => e = .returned (.bool r) ∧ Drawn0 w w' := by
 have HR0 := Aside0.mk hr0
 have HC0 := Aside0.mk hc0
 clear hr0 hc0
 have H : (interlocutorlaw4_Few.l0 k l0 0) = some r := h
 clear h
 have H' := Aside0.mk H
 clear H
 go_enter Try.func30, Try.ntmps30
 go_wp2
 go_loopg [3] k (fun kq v3 w' => ∃ (x3_1 : Int), v3 = .int .i64 x3_1 ∧ Aside0 (interlocutorlaw4_Few.l0 kq l0 x3_1 = some r) ∧ Aside0 (kq ≤ k) ∧ Drawn0 w w')
 case atStart => exact ⟨(0), (by first | rfl | (simp; done) | (simp [*]; done)), H', ⟨Nat.le_refl _⟩, by repeat (first | exact Drawn0.refl _ | apply Drawn0.step)⟩
 case round =>
  clear H'
  obtain ⟨x3_1, rfl, HA, HK1, ⟨m1, rfl⟩⟩ := hrel
  cases gk with
  | zero => exact absurd HA.out (by simp [interlocutorlaw4_Few.l0])
  | succ k1 =>
   have H := HA.out
   clear HA
   simp only [interlocutorlaw4_Few.l0] at H
   by_cases c2 : x3_1 < (l0.length : Int)
   ·rw [if_pos c2] at H
    have c2b0 : decide (x3_1 < (l0.length : Int)) = true := decide_eq_true c2
    clear c2
    by_cases c3 : 0 ≤ x3_1
    ·rw [if_pos c3] at H
     have c3b0 : decide (0 ≤ x3_1) = true := decide_eq_true c3
     clear c3
     by_cases c4 : (((rd_T85 l0 x3_1).f3).length : Int) > 20
     ·rw [if_pos c4] at H
      have c4b0 : decide (20 < (((rd_T85 l0 x3_1).f3).length : Int)) = true := decide_eq_true c4
      have c4b1 : decide (20 < ((rd_T85 l0 x3_1).f3).length) = true := decide_eq_true (by omega)
      clear c4
      obtain rfl := Option.some.inj H
      have p194 : 0 ≤ (x3_1 : Int) := of_decide_eq_true (by first | (with_reducible assumption) | assumption)
      have q194 : x3_1 < (l0.length : Int) := of_decide_eq_true (by first | (with_reducible assumption) | assumption)
      obtain ⟨ad194, A194_3, c194_3, A194_4, c194_4, e194, hx194_0, hx194_1, hx194_2, hx194_3, hx194_4, hl194_3, hi194_3, hl194_4, hi194_4⟩ := at_T85 HR0.out x3_1 p194 q194
      cases e194
      have HR194_3 := Aside0.mk hi194_3
      have HC194_3 := Aside0.mk hl194_3
      clear hi194_3 hl194_3
      have HR194_4 := Aside0.mk hi194_4
      have HC194_4 := Aside0.mk hl194_4
      clear hi194_4 hl194_4
      replace p194 := eq_true p194
      replace q194 := eq_true q194
      go_wp2
      go_ret
      exact ⟨by first | rfl | (simp; done) | (simp [*]; done), by repeat (first | exact Drawn0.refl _ | apply Drawn0.step)⟩
     ·rw [if_neg c4] at H
      have c4b0 : decide (20 < (((rd_T85 l0 x3_1).f3).length : Int)) = false := decide_eq_false c4
      have c4b1 : decide (20 < ((rd_T85 l0 x3_1).f3).length) = false := decide_eq_false (by omega)
      clear c4
      by_cases c5 : (((rd_T85 l0 x3_1).f4).length : Int) > 20
      ·rw [if_pos c5] at H
       have c5b0 : decide (20 < (((rd_T85 l0 x3_1).f4).length : Int)) = true := decide_eq_true c5
       have c5b1 : decide (20 < ((rd_T85 l0 x3_1).f4).length) = true := decide_eq_true (by omega)
       clear c5
       obtain rfl := Option.some.inj H
       have p194 : 0 ≤ (x3_1 : Int) := of_decide_eq_true (by first | (with_reducible assumption) | assumption)
       have q194 : x3_1 < (l0.length : Int) := of_decide_eq_true (by first | (with_reducible assumption) | assumption)
       obtain ⟨ad194, A194_3, c194_3, A194_4, c194_4, e194, hx194_0, hx194_1, hx194_2, hx194_3, hx194_4, hl194_3, hi194_3, hl194_4, hi194_4⟩ := at_T85 HR0.out x3_1 p194 q194
       cases e194
       have HR194_3 := Aside0.mk hi194_3
       have HC194_3 := Aside0.mk hl194_3
       clear hi194_3 hl194_3
       have HR194_4 := Aside0.mk hi194_4
       have HC194_4 := Aside0.mk hl194_4
       clear hi194_4 hl194_4
       replace p194 := eq_true p194
       replace q194 := eq_true q194
       have p195 : 0 ≤ (x3_1 : Int) := of_decide_eq_true (by first | (with_reducible assumption) | assumption)
       have q195 : x3_1 < (l0.length : Int) := of_decide_eq_true (by first | (with_reducible assumption) | assumption)
       obtain ⟨ad195, A195_3, c195_3, A195_4, c195_4, e195, hx195_0, hx195_1, hx195_2, hx195_3, hx195_4, hl195_3, hi195_3, hl195_4, hi195_4⟩ := at_T85 HR0.out x3_1 p195 q195
       obtain rfl : ad194 = ad195 := (by injection e195)
       have HR195_3 := Aside0.mk hi195_3
       have HC195_3 := Aside0.mk hl195_3
       clear hi195_3 hl195_3
       have HR195_4 := Aside0.mk hi195_4
       have HC195_4 := Aside0.mk hl195_4
       clear hi195_4 hl195_4
       replace p195 := eq_true p195
       replace q195 := eq_true q195
       have ea_ := Option.some.inj (hx194_3.symm.trans hx195_3)
       injection ea_ with ea_ en_ ec_
       subst ea_
       subst ec_
       clear en_
       have ea_ := Option.some.inj (hx194_4.symm.trans hx195_4)
       injection ea_ with ea_ en_ ec_
       subst ea_
       subst ec_
       clear en_
       go_wp2
       go_ret
       exact ⟨by first | rfl | (simp; done) | (simp [*]; done), by repeat (first | exact Drawn0.refl _ | apply Drawn0.step)⟩
      ·rw [if_neg c5] at H
       have c5b0 : decide (20 < (((rd_T85 l0 x3_1).f4).length : Int)) = false := decide_eq_false c5
       have c5b1 : decide (20 < ((rd_T85 l0 x3_1).f4).length) = false := decide_eq_false (by omega)
       clear c5
       have H' := Aside0.mk H
       clear H
       have p194 : 0 ≤ (x3_1 : Int) := of_decide_eq_true (by first | (with_reducible assumption) | assumption)
       have q194 : x3_1 < (l0.length : Int) := of_decide_eq_true (by first | (with_reducible assumption) | assumption)
       obtain ⟨ad194, A194_3, c194_3, A194_4, c194_4, e194, hx194_0, hx194_1, hx194_2, hx194_3, hx194_4, hl194_3, hi194_3, hl194_4, hi194_4⟩ := at_T85 HR0.out x3_1 p194 q194
       cases e194
       have HR194_3 := Aside0.mk hi194_3
       have HC194_3 := Aside0.mk hl194_3
       clear hi194_3 hl194_3
       have HR194_4 := Aside0.mk hi194_4
       have HC194_4 := Aside0.mk hl194_4
       clear hi194_4 hl194_4
       replace p194 := eq_true p194
       replace q194 := eq_true q194
       have p195 : 0 ≤ (x3_1 : Int) := of_decide_eq_true (by first | (with_reducible assumption) | assumption)
       have q195 : x3_1 < (l0.length : Int) := of_decide_eq_true (by first | (with_reducible assumption) | assumption)
       obtain ⟨ad195, A195_3, c195_3, A195_4, c195_4, e195, hx195_0, hx195_1, hx195_2, hx195_3, hx195_4, hl195_3, hi195_3, hl195_4, hi195_4⟩ := at_T85 HR0.out x3_1 p195 q195
       obtain rfl : ad194 = ad195 := (by injection e195)
       have HR195_3 := Aside0.mk hi195_3
       have HC195_3 := Aside0.mk hl195_3
       clear hi195_3 hl195_3
       have HR195_4 := Aside0.mk hi195_4
       have HC195_4 := Aside0.mk hl195_4
       clear hi195_4 hl195_4
       replace p195 := eq_true p195
       replace q195 := eq_true q195
       have ea_ := Option.some.inj (hx194_3.symm.trans hx195_3)
       injection ea_ with ea_ en_ ec_
       subst ea_
       subst ec_
       clear en_
       have ea_ := Option.some.inj (hx194_4.symm.trans hx195_4)
       injection ea_ with ea_ en_ ec_
       subst ea_
       subst ec_
       clear en_
       go_wp2
       go_roundg k1
       case measure => have := HK1.out; omega
       case rel => exact ⟨(wrap64 (x3_1 + 1)), (by first | rfl | (simp; done) | (simp [*]; done)), H', ⟨by have := HK1.out; omega⟩, by repeat (first | exact Drawn0.refl _ | apply Drawn0.step)⟩
    ·rw [if_neg c3] at H
     exact absurd H (by simp)
   ·rw [if_neg c2] at H
    have c2b0 : decide (x3_1 < (l0.length : Int)) = false := decide_eq_false c2
    clear c2
    obtain rfl := Option.some.inj H
    go_wp2
    go_ret
    exact ⟨by first | rfl | (simp; done) | (simp [*]; done), by repeat (first | exact Drawn0.refl _ | apply Drawn0.step)⟩
def interlocutorlaw5_Shape_Few.f (k : Nat) (a0_0 : Int) (a0_1 : Int) (a0_2 : Int) (a0_3 : Int) (l0_4 : List (S85)) (a0_5 : Bool) : Option (Bool) := (interlocutorlaw4_Few.f k l0_4).bind fun t197 => (if t197 = true then (some (decide ((l0_4.length : Int) ≤ 12))) else (some false))
theorem interlocutorlaw5_Shape_Few.mono : ∀ a0 a1 a2 a3 a4 a5 k, LeO (interlocutorlaw5_Shape_Few.f k a0 a1 a2 a3 a4 a5) (interlocutorlaw5_Shape_Few.f (k + 1) a0 a1 a2 a3 a4 a5) := by
 intro a0 a1 a2 a3 a4 a5 k
 unfold interlocutorlaw5_Shape_Few.f
 repeat' first
   | (with_reducible exact interlocutorlaw4_Few.mono _ _)
   | (with_reducible exact LeO.refl _)
   | (with_reducible exact LeO.none _)
   | (with_reducible refine LeO.ite ?_ ?_)
   | (with_reducible refine LeO.bind ?_ (fun _ => ?_))
   | exact interlocutorlaw4_Few.mono _ _
   | exact LeO.none _
   | refine LeO.ite ?_ ?_
   | refine LeO.bind ?_ (fun _ => ?_)
set_option maxHeartbeats 8000000 in
set_option maxRecDepth 100000 in
theorem interlocutorlaw5_Shape_Few.calls (k : Nat) (a0_0 : Int) (a0_1 : Int) (a0_2 : Int) (a0_3 : Int) (A0_4 : Option Addr) (c0_4 : Nat) (l0_4 : List (S85)) (a0_5 : Bool) (r : Bool) (w : World) (hr0_4 : Kd.C k85 w A0_4 l0_4.length l0_4) (hc0_4 : l0_4.length ≤ c0_4) (h : interlocutorlaw5_Shape_Few.f k a0_0 a0_1 a0_2 a0_3 l0_4 a0_5 = some r) :
  Calls Try.prog 15 #[.agg #[.int .i64 a0_0, .int .i64 a0_1, .int .i64 a0_2, .int .i64 a0_3, .slice A0_4 l0_4.length c0_4, .bool a0_5]] w fun e w' => e = .returned (.bool r) ∧ Below w.heap.size w w' := by
 have hu24 := Try.underlying24
 have HR0_4 := Aside0.mk hr0_4
 have HC0_4 := Aside0.mk hc0_4
 clear hr0_4 hc0_4
 have HB := Aside0.mk (Below.refl w.heap.size w)
 have H : ((interlocutorlaw4_Few.f k l0_4).bind fun t197 => (if t197 = true then (some (decide ((l0_4.length : Int) ≤ 12))) else (some false))) = some r := h
 clear h
 replace H := Option.bind_eq_some_iff.mp H
 obtain ⟨t197, A20, H⟩ := H
 replace H : (if t197 = true then (some (decide ((l0_4.length : Int) ≤ 12))) else (some false)) = some r := H
 have A2 := Aside0.mk A20
 clear A20
 by_cases c3 : t197 = true
 ·subst c3
  have H1 : (some (decide ((l0_4.length : Int) ≤ 12))) = some r := by rw [if_pos rfl] at H; exact H
  clear H
  have H := H1
  clear H1
  obtain rfl := Option.some.inj H
  go_enter Try.func15, Try.ntmps15
  go_wp2_with (first | ((with_reducible refine gate_dst (N := 1) rfl ?_); (try (refine gate_guard (by rfl) ?_; dsimp only)); refine box_event ?hg (N := 1) ?hd (cs := #[.int .i64 a0_0, .int .i64 a0_1, .int .i64 a0_2, .int .i64 a0_3, .slice A0_4 l0_4.length c0_4, .bool a0_5]) (t := 24) ?hr ?_; (case hd => rfl); (case hg => rfl); (case hr => first | (go_simp; done) | (go_simp; rfl)); intro gb196 hg w4 hbox hb; have n0_ := Aside0.mk (below_step (by exact wU HB.out) hb); have n1_ := Aside0.mk (hbox); have n2_ := Aside0.mk ((by rw [hg]; exact (below_size (by exact wU HB.out)) : w.heap.size ≤ gb196)); have n3_ := Aside0.mk ((by rw [hg]; exact (below_size (by exact wU HB.out)) : w.heap.size ≤ gb196)); clear HB; have HB := n0_; have BK196 := n1_; have GW196 := n2_; have GE196 := n3_; clear n0_ n1_ n2_ n3_; clear hb hbox hg; have hcz5_0 : w4.cell? ⟨gb196, 0, none⟩ = some (.int .i64 a0_0) := (blk_cell BK196.out 0).trans rfl; have hcz5_1 : w4.cell? ⟨gb196, 1, none⟩ = some (.int .i64 a0_1) := (blk_cell BK196.out 1).trans rfl; have hcz5_2 : w4.cell? ⟨gb196, 2, none⟩ = some (.int .i64 a0_2) := (blk_cell BK196.out 2).trans rfl; have hcz5_3 : w4.cell? ⟨gb196, 3, none⟩ = some (.int .i64 a0_3) := (blk_cell BK196.out 3).trans rfl; have hcz5_4 : w4.cell? ⟨gb196, 4, none⟩ = some (.slice A0_4 l0_4.length c0_4) := (blk_cell BK196.out 4).trans rfl; have hcz5_5 : w4.cell? ⟨gb196, 5, none⟩ = some (.bool a0_5) := (blk_cell BK196.out 5).trans rfl; have hfz5_0 := blk_frozen BK196.out 0; have hfz5_1 := blk_frozen BK196.out 1; have hfz5_2 := blk_frozen BK196.out 2; have hfz5_3 := blk_frozen BK196.out 3; have hfz5_4 := blk_frozen BK196.out 4; have hfz5_5 := blk_frozen BK196.out 5) | ((with_reducible refine gate_callee (f := 30) rfl ?_); refine goesL_ (some 5) rfl rfl Try.func30 (by kernel_rfl) rfl #[.slice A0_4 l0_4.length c0_4] rfl (by (try simp only [List.map_toArray, List.map_cons, List.map_nil]); first | done | rfl | (simp only [List.length_drop, List.length_take]; rfl)) ?_; (with_reducible refine (interlocutorlaw4_Few.calls k _ _ l0_4 true _ ?side1 ?side2 A2.out).mono ?_); (case side1 => repeat (first | exact (Kd.C_below HR0_4.out HB.out) | (with_reducible refine Kd.C_alloc ?_ _) | (with_reducible refine Kd.C_drewN ?_ _) | (with_reducible refine Kd.C_drew ?_))); (case side2 => exact HC0_4.out); rintro e w' ⟨rfl, ⟨nd, rfl⟩⟩; refine ⟨_, rfl, ?_⟩))
  go_ret
  exact ⟨by first | rfl | (simp [errW_none, errW_some] <;> rfl) | (simp [*, errW_none, errW_some] <;> rfl), by exact wS HB.out GE196.out⟩
 ·replace c3 := Bool.eq_false_iff.mpr c3
  subst c3
  have H1 : (some false) = some r := by rw [if_neg (show ¬ (false = true) by decide)] at H; exact H
  clear H
  have H := H1
  clear H1
  obtain rfl := Option.some.inj H
  go_enter Try.func15, Try.ntmps15
  go_wp2_with (first | ((with_reducible refine gate_dst (N := 1) rfl ?_); (try (refine gate_guard (by rfl) ?_; dsimp only)); refine box_event ?hg (N := 1) ?hd (cs := #[.int .i64 a0_0, .int .i64 a0_1, .int .i64 a0_2, .int .i64 a0_3, .slice A0_4 l0_4.length c0_4, .bool a0_5]) (t := 24) ?hr ?_; (case hd => rfl); (case hg => rfl); (case hr => first | (go_simp; done) | (go_simp; rfl)); intro gb196 hg w6 hbox hb; have n0_ := Aside0.mk (below_step (by exact wU HB.out) hb); have n1_ := Aside0.mk (hbox); have n2_ := Aside0.mk ((by rw [hg]; exact (below_size (by exact wU HB.out)) : w.heap.size ≤ gb196)); have n3_ := Aside0.mk ((by rw [hg]; exact (below_size (by exact wU HB.out)) : w.heap.size ≤ gb196)); clear HB; have HB := n0_; have BK196 := n1_; have GW196 := n2_; have GE196 := n3_; clear n0_ n1_ n2_ n3_; clear hb hbox hg; have hcz7_0 : w6.cell? ⟨gb196, 0, none⟩ = some (.int .i64 a0_0) := (blk_cell BK196.out 0).trans rfl; have hcz7_1 : w6.cell? ⟨gb196, 1, none⟩ = some (.int .i64 a0_1) := (blk_cell BK196.out 1).trans rfl; have hcz7_2 : w6.cell? ⟨gb196, 2, none⟩ = some (.int .i64 a0_2) := (blk_cell BK196.out 2).trans rfl; have hcz7_3 : w6.cell? ⟨gb196, 3, none⟩ = some (.int .i64 a0_3) := (blk_cell BK196.out 3).trans rfl; have hcz7_4 : w6.cell? ⟨gb196, 4, none⟩ = some (.slice A0_4 l0_4.length c0_4) := (blk_cell BK196.out 4).trans rfl; have hcz7_5 : w6.cell? ⟨gb196, 5, none⟩ = some (.bool a0_5) := (blk_cell BK196.out 5).trans rfl; have hfz7_0 := blk_frozen BK196.out 0; have hfz7_1 := blk_frozen BK196.out 1; have hfz7_2 := blk_frozen BK196.out 2; have hfz7_3 := blk_frozen BK196.out 3; have hfz7_4 := blk_frozen BK196.out 4; have hfz7_5 := blk_frozen BK196.out 5) | ((with_reducible refine gate_callee (f := 30) rfl ?_); refine goesL_ (some 5) rfl rfl Try.func30 (by kernel_rfl) rfl #[.slice A0_4 l0_4.length c0_4] rfl (by (try simp only [List.map_toArray, List.map_cons, List.map_nil]); first | done | rfl | (simp only [List.length_drop, List.length_take]; rfl)) ?_; (with_reducible refine (interlocutorlaw4_Few.calls k _ _ l0_4 false _ ?side1 ?side2 A2.out).mono ?_); (case side1 => repeat (first | exact (Kd.C_below HR0_4.out HB.out) | (with_reducible refine Kd.C_alloc ?_ _) | (with_reducible refine Kd.C_drewN ?_ _) | (with_reducible refine Kd.C_drew ?_))); (case side2 => exact HC0_4.out); rintro e w' ⟨rfl, ⟨nd, rfl⟩⟩; refine ⟨_, rfl, ?_⟩))
  go_ret
  exact ⟨by first | rfl | (simp [errW_none, errW_some] <;> rfl) | (simp [*, errW_none, errW_some] <;> rfl), by exact wS HB.out GE196.out⟩
def interlocutorlaw6_within.f (a0 : Int) (a1 : Int) : Option (Int) := if a1 = 0 then (none) else (if (Int.tmod a0 a1) < 0 then (some (wrap64 ((Int.tmod a0 a1) + a1))) else (some (Int.tmod a0 a1)))
set_option maxHeartbeats 8000000 in
set_option maxRecDepth 100000 in
theorem interlocutorlaw6_within.calls (a0 : Int) (a1 : Int) (r : Int) (w : World) (h : interlocutorlaw6_within.f a0 a1 = some r) :
  Calls Try.prog 27 #[.int .i64 a0, .int .i64 a1] w fun e w' => e = .returned (.int .i64 r) ∧ Drawn0 w w' := by
 have H : (if a1 = 0 then (none) else (if (Int.tmod a0 a1) < 0 then (some (wrap64 ((Int.tmod a0 a1) + a1))) else (some (Int.tmod a0 a1)))) = some r := h
 clear h
 by_cases c3 : a1 = 0
 ·rw [if_pos c3] at H
  exact absurd H (by simp)
 ·rw [if_neg c3] at H
  have c3b0 : (a1 == 0) = false := beq_eq_false_iff_ne.mpr c3
  have c3b1 : (a1 != 0) = true := bne_iff_ne.mpr c3
  by_cases c4 : (Int.tmod a0 a1) < 0
  ·rw [if_pos c4] at H
   have c4b0 : decide ((Int.tmod a0 a1) < 0) = true := decide_eq_true c4
   clear c4
   obtain rfl := Option.some.inj H
   go_enter Try.func27, Try.ntmps27
   go_wp2
   go_ret
   exact ⟨by first | rfl | (simp; done) | (simp [*]; done), by repeat (first | exact Drawn0.refl _ | apply Drawn0.step)⟩
  ·rw [if_neg c4] at H
   have c4b0 : decide ((Int.tmod a0 a1) < 0) = false := decide_eq_false c4
   clear c4
   obtain rfl := Option.some.inj H
   go_enter Try.func27, Try.ntmps27
   go_wp2
   go_ret
   exact ⟨by first | rfl | (simp; done) | (simp [*]; done), by repeat (first | exact Drawn0.refl _ | apply Drawn0.step)⟩
def interlocutorlaw5_within.f (a0 : Int) (a1 : Int) : Option (Int) := if a1 = 0 then (none) else (if (Int.tmod a0 a1) < 0 then (some (wrap64 ((Int.tmod a0 a1) + a1))) else (some (Int.tmod a0 a1)))
set_option maxHeartbeats 8000000 in
set_option maxRecDepth 100000 in
theorem interlocutorlaw5_within.calls (a0 : Int) (a1 : Int) (r : Int) (w : World) (h : interlocutorlaw5_within.f a0 a1 = some r) :
  Calls Try.prog 46 #[.int .i64 a0, .int .i64 a1] w fun e w' => e = .returned (.int .i64 r) ∧ Drawn0 w w' := by
 have H : (if a1 = 0 then (none) else (if (Int.tmod a0 a1) < 0 then (some (wrap64 ((Int.tmod a0 a1) + a1))) else (some (Int.tmod a0 a1)))) = some r := h
 clear h
 by_cases c3 : a1 = 0
 ·rw [if_pos c3] at H
  exact absurd H (by simp)
 ·rw [if_neg c3] at H
  have c3b0 : (a1 == 0) = false := beq_eq_false_iff_ne.mpr c3
  have c3b1 : (a1 != 0) = true := bne_iff_ne.mpr c3
  by_cases c4 : (Int.tmod a0 a1) < 0
  ·rw [if_pos c4] at H
   have c4b0 : decide ((Int.tmod a0 a1) < 0) = true := decide_eq_true c4
   clear c4
   obtain rfl := Option.some.inj H
   go_enter Try.func46, Try.ntmps46
   go_wp2
   go_ret
   exact ⟨by first | rfl | (simp; done) | (simp [*]; done), by repeat (first | exact Drawn0.refl _ | apply Drawn0.step)⟩
  ·rw [if_neg c4] at H
   have c4b0 : decide ((Int.tmod a0 a1) < 0) = false := decide_eq_false c4
   clear c4
   obtain rfl := Option.some.inj H
   go_enter Try.func46, Try.ntmps46
   go_wp2
   go_ret
   exact ⟨by first | rfl | (simp; done) | (simp [*]; done), by repeat (first | exact Drawn0.refl _ | apply Drawn0.step)⟩
def interlocutorlaw5_words.f  : Option ((List (S53))) := some (([(⟨(⟨#[106, 97, 110]⟩ : ByteArray), 1, 1⟩ : S53), (⟨(⟨#[102, 101, 98, 114, 117, 97, 114, 121]⟩ : ByteArray), 1, 2⟩ : S53), (⟨(⟨#[109, 97, 121]⟩ : ByteArray), 1, 5⟩ : S53), (⟨(⟨#[100, 101, 99]⟩ : ByteArray), 1, 12⟩ : S53), (⟨(⟨#[109, 111, 110, 100, 97, 121]⟩ : ByteArray), 2, 0⟩ : S53), (⟨(⟨#[102, 114, 105, 100, 97, 121]⟩ : ByteArray), 2, 4⟩ : S53), (⟨(⟨#[100, 97, 121]⟩ : ByteArray), 3, 1⟩ : S53), (⟨(⟨#[100, 97, 121, 115]⟩ : ByteArray), 3, 1⟩ : S53), (⟨(⟨#[119, 101, 101, 107]⟩ : ByteArray), 3, 2⟩ : S53), (⟨(⟨#[109, 111, 110, 116, 104, 115]⟩ : ByteArray), 3, 3⟩ : S53), (⟨(⟨#[97, 103, 111]⟩ : ByteArray), 4, (-1)⟩ : S53), (⟨(⟨#[104, 101, 110, 99, 101]⟩ : ByteArray), 4, 1⟩ : S53), (⟨(⟨#[97, 109]⟩ : ByteArray), 5, 0⟩ : S53), (⟨(⟨#[112, 109]⟩ : ByteArray), 5, 1⟩ : S53), (⟨(⟨#[101, 117, 114]⟩ : ByteArray), 6, 9782⟩ : S53), (⟨(⟨#[226, 130, 172]⟩ : ByteArray), 6, 9782⟩ : S53), (⟨(⟨#[121, 101, 110]⟩ : ByteArray), 6, 3920⟩ : S53), (⟨(⟨#[115]⟩ : ByteArray), 7, 1⟩ : S53), (⟨(⟨#[109, 105, 110]⟩ : ByteArray), 7, 60⟩ : S53), (⟨(⟨#[104]⟩ : ByteArray), 7, 3600⟩ : S53), (⟨(⟨#[116, 111]⟩ : ByteArray), 8, 0⟩ : S53), (⟨(⟨#[97]⟩ : ByteArray), 9, 1⟩ : S53)] : List (S53)))
set_option maxHeartbeats 8000000 in
set_option maxRecDepth 100000 in
theorem interlocutorlaw5_words.calls  (r : List (S53)) (w : World) (h : interlocutorlaw5_words.f  = some r) :
  Calls Try.prog 68 #[] w fun e w' => ∃ v0_ : Value, e = .returned (v0_) ∧ Kd.R k53 53 w' w.heap.size (fun _ => True) v0_ r ∧ Below w.heap.size w w' := by
 have hu53 := Try.underlying53
 have HB := Aside0.mk (Below.refl w.heap.size w)
 have H : (some (([(⟨(⟨#[106, 97, 110]⟩ : ByteArray), 1, 1⟩ : S53), (⟨(⟨#[102, 101, 98, 114, 117, 97, 114, 121]⟩ : ByteArray), 1, 2⟩ : S53), (⟨(⟨#[109, 97, 121]⟩ : ByteArray), 1, 5⟩ : S53), (⟨(⟨#[100, 101, 99]⟩ : ByteArray), 1, 12⟩ : S53), (⟨(⟨#[109, 111, 110, 100, 97, 121]⟩ : ByteArray), 2, 0⟩ : S53), (⟨(⟨#[102, 114, 105, 100, 97, 121]⟩ : ByteArray), 2, 4⟩ : S53), (⟨(⟨#[100, 97, 121]⟩ : ByteArray), 3, 1⟩ : S53), (⟨(⟨#[100, 97, 121, 115]⟩ : ByteArray), 3, 1⟩ : S53), (⟨(⟨#[119, 101, 101, 107]⟩ : ByteArray), 3, 2⟩ : S53), (⟨(⟨#[109, 111, 110, 116, 104, 115]⟩ : ByteArray), 3, 3⟩ : S53), (⟨(⟨#[97, 103, 111]⟩ : ByteArray), 4, (-1)⟩ : S53), (⟨(⟨#[104, 101, 110, 99, 101]⟩ : ByteArray), 4, 1⟩ : S53), (⟨(⟨#[97, 109]⟩ : ByteArray), 5, 0⟩ : S53), (⟨(⟨#[112, 109]⟩ : ByteArray), 5, 1⟩ : S53), (⟨(⟨#[101, 117, 114]⟩ : ByteArray), 6, 9782⟩ : S53), (⟨(⟨#[226, 130, 172]⟩ : ByteArray), 6, 9782⟩ : S53), (⟨(⟨#[121, 101, 110]⟩ : ByteArray), 6, 3920⟩ : S53), (⟨(⟨#[115]⟩ : ByteArray), 7, 1⟩ : S53), (⟨(⟨#[109, 105, 110]⟩ : ByteArray), 7, 60⟩ : S53), (⟨(⟨#[104]⟩ : ByteArray), 7, 3600⟩ : S53), (⟨(⟨#[116, 111]⟩ : ByteArray), 8, 0⟩ : S53), (⟨(⟨#[97]⟩ : ByteArray), 9, 1⟩ : S53)] : List (S53)))) = some r := h
 clear h
 obtain ⟨y198, hy198⟩ : ∃ y_ : List (S53), y_ = (([(⟨(⟨#[106, 97, 110]⟩ : ByteArray), 1, 1⟩ : S53), (⟨(⟨#[102, 101, 98, 114, 117, 97, 114, 121]⟩ : ByteArray), 1, 2⟩ : S53), (⟨(⟨#[109, 97, 121]⟩ : ByteArray), 1, 5⟩ : S53), (⟨(⟨#[100, 101, 99]⟩ : ByteArray), 1, 12⟩ : S53), (⟨(⟨#[109, 111, 110, 100, 97, 121]⟩ : ByteArray), 2, 0⟩ : S53), (⟨(⟨#[102, 114, 105, 100, 97, 121]⟩ : ByteArray), 2, 4⟩ : S53), (⟨(⟨#[100, 97, 121]⟩ : ByteArray), 3, 1⟩ : S53), (⟨(⟨#[100, 97, 121, 115]⟩ : ByteArray), 3, 1⟩ : S53), (⟨(⟨#[119, 101, 101, 107]⟩ : ByteArray), 3, 2⟩ : S53), (⟨(⟨#[109, 111, 110, 116, 104, 115]⟩ : ByteArray), 3, 3⟩ : S53), (⟨(⟨#[97, 103, 111]⟩ : ByteArray), 4, (-1)⟩ : S53), (⟨(⟨#[104, 101, 110, 99, 101]⟩ : ByteArray), 4, 1⟩ : S53), (⟨(⟨#[97, 109]⟩ : ByteArray), 5, 0⟩ : S53), (⟨(⟨#[112, 109]⟩ : ByteArray), 5, 1⟩ : S53), (⟨(⟨#[101, 117, 114]⟩ : ByteArray), 6, 9782⟩ : S53), (⟨(⟨#[226, 130, 172]⟩ : ByteArray), 6, 9782⟩ : S53), (⟨(⟨#[121, 101, 110]⟩ : ByteArray), 6, 3920⟩ : S53), (⟨(⟨#[115]⟩ : ByteArray), 7, 1⟩ : S53), (⟨(⟨#[109, 105, 110]⟩ : ByteArray), 7, 60⟩ : S53), (⟨(⟨#[104]⟩ : ByteArray), 7, 3600⟩ : S53), (⟨(⟨#[116, 111]⟩ : ByteArray), 8, 0⟩ : S53), (⟨(⟨#[97]⟩ : ByteArray), 9, 1⟩ : S53)] : List (S53))) := ⟨_, rfl⟩
 replace H : (some y198) = some r := by first | (rw [hy198]; with_reducible exact H) | (have H2_ := (Option.bind_some _ _).symm.trans H; rw [hy198]; with_reducible exact H2_) | (have H2_ := (Option.bind_some _ _).symm.trans H; with_reducible exact H2_) | with_reducible exact H | (rw [hy198]; exact H) | exact H
 have Ny198 := Aside0.mk hy198
 clear hy198
 obtain rfl := Option.some.inj H
 go_enter Try.func68, Try.ntmps68
 go_wp2_with (first | ((with_reducible refine gate_dst (N := 23) rfl ?_); refine Kd.R_lit k53 _ 53 ?hg (N := 23) ?hd (xs := ([(⟨(⟨#[106, 97, 110]⟩ : ByteArray), 1, 1⟩ : S53), (⟨(⟨#[102, 101, 98, 114, 117, 97, 114, 121]⟩ : ByteArray), 1, 2⟩ : S53), (⟨(⟨#[109, 97, 121]⟩ : ByteArray), 1, 5⟩ : S53), (⟨(⟨#[100, 101, 99]⟩ : ByteArray), 1, 12⟩ : S53), (⟨(⟨#[109, 111, 110, 100, 97, 121]⟩ : ByteArray), 2, 0⟩ : S53), (⟨(⟨#[102, 114, 105, 100, 97, 121]⟩ : ByteArray), 2, 4⟩ : S53), (⟨(⟨#[100, 97, 121]⟩ : ByteArray), 3, 1⟩ : S53), (⟨(⟨#[100, 97, 121, 115]⟩ : ByteArray), 3, 1⟩ : S53), (⟨(⟨#[119, 101, 101, 107]⟩ : ByteArray), 3, 2⟩ : S53), (⟨(⟨#[109, 111, 110, 116, 104, 115]⟩ : ByteArray), 3, 3⟩ : S53), (⟨(⟨#[97, 103, 111]⟩ : ByteArray), 4, (-1)⟩ : S53), (⟨(⟨#[104, 101, 110, 99, 101]⟩ : ByteArray), 4, 1⟩ : S53), (⟨(⟨#[97, 109]⟩ : ByteArray), 5, 0⟩ : S53), (⟨(⟨#[112, 109]⟩ : ByteArray), 5, 1⟩ : S53), (⟨(⟨#[101, 117, 114]⟩ : ByteArray), 6, 9782⟩ : S53), (⟨(⟨#[226, 130, 172]⟩ : ByteArray), 6, 9782⟩ : S53), (⟨(⟨#[121, 101, 110]⟩ : ByteArray), 6, 3920⟩ : S53), (⟨(⟨#[115]⟩ : ByteArray), 7, 1⟩ : S53), (⟨(⟨#[109, 105, 110]⟩ : ByteArray), 7, 60⟩ : S53), (⟨(⟨#[104]⟩ : ByteArray), 7, 3600⟩ : S53), (⟨(⟨#[116, 111]⟩ : ByteArray), 8, 0⟩ : S53), (⟨(⟨#[97]⟩ : ByteArray), 9, 1⟩ : S53)] : List (S53))) (inner := [.string (⟨#[106, 97, 110]⟩ : ByteArray), .int .i64 1, .int .i64 1, .string (⟨#[102, 101, 98, 114, 117, 97, 114, 121]⟩ : ByteArray), .int .i64 1, .int .i64 2, .string (⟨#[109, 97, 121]⟩ : ByteArray), .int .i64 1, .int .i64 5, .string (⟨#[100, 101, 99]⟩ : ByteArray), .int .i64 1, .int .i64 12, .string (⟨#[109, 111, 110, 100, 97, 121]⟩ : ByteArray), .int .i64 2, .int .i64 0, .string (⟨#[102, 114, 105, 100, 97, 121]⟩ : ByteArray), .int .i64 2, .int .i64 4, .string (⟨#[100, 97, 121]⟩ : ByteArray), .int .i64 3, .int .i64 1, .string (⟨#[100, 97, 121, 115]⟩ : ByteArray), .int .i64 3, .int .i64 1, .string (⟨#[119, 101, 101, 107]⟩ : ByteArray), .int .i64 3, .int .i64 2, .string (⟨#[109, 111, 110, 116, 104, 115]⟩ : ByteArray), .int .i64 3, .int .i64 3, .string (⟨#[97, 103, 111]⟩ : ByteArray), .int .i64 4, .int .i64 (-1), .string (⟨#[104, 101, 110, 99, 101]⟩ : ByteArray), .int .i64 4, .int .i64 1, .string (⟨#[97, 109]⟩ : ByteArray), .int .i64 5, .int .i64 0, .string (⟨#[112, 109]⟩ : ByteArray), .int .i64 5, .int .i64 1, .string (⟨#[101, 117, 114]⟩ : ByteArray), .int .i64 6, .int .i64 9782, .string (⟨#[226, 130, 172]⟩ : ByteArray), .int .i64 6, .int .i64 9782, .string (⟨#[121, 101, 110]⟩ : ByteArray), .int .i64 6, .int .i64 3920, .string (⟨#[115]⟩ : ByteArray), .int .i64 7, .int .i64 1, .string (⟨#[109, 105, 110]⟩ : ByteArray), .int .i64 7, .int .i64 60, .string (⟨#[104]⟩ : ByteArray), .int .i64 7, .int .i64 3600, .string (⟨#[116, 111]⟩ : ByteArray), .int .i64 8, .int .i64 0, .string (⟨#[97]⟩ : ByteArray), .int .i64 9, .int .i64 1]) (ok := fun _ => True) (okp := fun _ => True) ?hr ?hp (fun _ hk => hk) trivial (Below.refl _ _) (Nat.le_refl _) (by simp) ?_; (case hd => rfl); (case hg => rfl); (case hr => first | (go_simp; done) | (go_simp; rfl)); (case hp => exact (Reps.c3 (show Kd.M k53 _ _ _ (⟨(⟨#[106, 97, 110]⟩ : ByteArray), 1, 1⟩ : S53) [.string (⟨#[106, 97, 110]⟩ : ByteArray), .int .i64 1, .int .i64 1] from (k53_mkM _ _ _ (⟨(⟨#[106, 97, 110]⟩ : ByteArray), 1, 1⟩ : S53) )) (Reps.c3 (show Kd.M k53 _ _ _ (⟨(⟨#[102, 101, 98, 114, 117, 97, 114, 121]⟩ : ByteArray), 1, 2⟩ : S53) [.string (⟨#[102, 101, 98, 114, 117, 97, 114, 121]⟩ : ByteArray), .int .i64 1, .int .i64 2] from (k53_mkM _ _ _ (⟨(⟨#[102, 101, 98, 114, 117, 97, 114, 121]⟩ : ByteArray), 1, 2⟩ : S53) )) (Reps.c3 (show Kd.M k53 _ _ _ (⟨(⟨#[109, 97, 121]⟩ : ByteArray), 1, 5⟩ : S53) [.string (⟨#[109, 97, 121]⟩ : ByteArray), .int .i64 1, .int .i64 5] from (k53_mkM _ _ _ (⟨(⟨#[109, 97, 121]⟩ : ByteArray), 1, 5⟩ : S53) )) (Reps.c3 (show Kd.M k53 _ _ _ (⟨(⟨#[100, 101, 99]⟩ : ByteArray), 1, 12⟩ : S53) [.string (⟨#[100, 101, 99]⟩ : ByteArray), .int .i64 1, .int .i64 12] from (k53_mkM _ _ _ (⟨(⟨#[100, 101, 99]⟩ : ByteArray), 1, 12⟩ : S53) )) (Reps.c3 (show Kd.M k53 _ _ _ (⟨(⟨#[109, 111, 110, 100, 97, 121]⟩ : ByteArray), 2, 0⟩ : S53) [.string (⟨#[109, 111, 110, 100, 97, 121]⟩ : ByteArray), .int .i64 2, .int .i64 0] from (k53_mkM _ _ _ (⟨(⟨#[109, 111, 110, 100, 97, 121]⟩ : ByteArray), 2, 0⟩ : S53) )) (Reps.c3 (show Kd.M k53 _ _ _ (⟨(⟨#[102, 114, 105, 100, 97, 121]⟩ : ByteArray), 2, 4⟩ : S53) [.string (⟨#[102, 114, 105, 100, 97, 121]⟩ : ByteArray), .int .i64 2, .int .i64 4] from (k53_mkM _ _ _ (⟨(⟨#[102, 114, 105, 100, 97, 121]⟩ : ByteArray), 2, 4⟩ : S53) )) (Reps.c3 (show Kd.M k53 _ _ _ (⟨(⟨#[100, 97, 121]⟩ : ByteArray), 3, 1⟩ : S53) [.string (⟨#[100, 97, 121]⟩ : ByteArray), .int .i64 3, .int .i64 1] from (k53_mkM _ _ _ (⟨(⟨#[100, 97, 121]⟩ : ByteArray), 3, 1⟩ : S53) )) (Reps.c3 (show Kd.M k53 _ _ _ (⟨(⟨#[100, 97, 121, 115]⟩ : ByteArray), 3, 1⟩ : S53) [.string (⟨#[100, 97, 121, 115]⟩ : ByteArray), .int .i64 3, .int .i64 1] from (k53_mkM _ _ _ (⟨(⟨#[100, 97, 121, 115]⟩ : ByteArray), 3, 1⟩ : S53) )) (Reps.c3 (show Kd.M k53 _ _ _ (⟨(⟨#[119, 101, 101, 107]⟩ : ByteArray), 3, 2⟩ : S53) [.string (⟨#[119, 101, 101, 107]⟩ : ByteArray), .int .i64 3, .int .i64 2] from (k53_mkM _ _ _ (⟨(⟨#[119, 101, 101, 107]⟩ : ByteArray), 3, 2⟩ : S53) )) (Reps.c3 (show Kd.M k53 _ _ _ (⟨(⟨#[109, 111, 110, 116, 104, 115]⟩ : ByteArray), 3, 3⟩ : S53) [.string (⟨#[109, 111, 110, 116, 104, 115]⟩ : ByteArray), .int .i64 3, .int .i64 3] from (k53_mkM _ _ _ (⟨(⟨#[109, 111, 110, 116, 104, 115]⟩ : ByteArray), 3, 3⟩ : S53) )) (Reps.c3 (show Kd.M k53 _ _ _ (⟨(⟨#[97, 103, 111]⟩ : ByteArray), 4, (-1)⟩ : S53) [.string (⟨#[97, 103, 111]⟩ : ByteArray), .int .i64 4, .int .i64 (-1)] from (k53_mkM _ _ _ (⟨(⟨#[97, 103, 111]⟩ : ByteArray), 4, (-1)⟩ : S53) )) (Reps.c3 (show Kd.M k53 _ _ _ (⟨(⟨#[104, 101, 110, 99, 101]⟩ : ByteArray), 4, 1⟩ : S53) [.string (⟨#[104, 101, 110, 99, 101]⟩ : ByteArray), .int .i64 4, .int .i64 1] from (k53_mkM _ _ _ (⟨(⟨#[104, 101, 110, 99, 101]⟩ : ByteArray), 4, 1⟩ : S53) )) (Reps.c3 (show Kd.M k53 _ _ _ (⟨(⟨#[97, 109]⟩ : ByteArray), 5, 0⟩ : S53) [.string (⟨#[97, 109]⟩ : ByteArray), .int .i64 5, .int .i64 0] from (k53_mkM _ _ _ (⟨(⟨#[97, 109]⟩ : ByteArray), 5, 0⟩ : S53) )) (Reps.c3 (show Kd.M k53 _ _ _ (⟨(⟨#[112, 109]⟩ : ByteArray), 5, 1⟩ : S53) [.string (⟨#[112, 109]⟩ : ByteArray), .int .i64 5, .int .i64 1] from (k53_mkM _ _ _ (⟨(⟨#[112, 109]⟩ : ByteArray), 5, 1⟩ : S53) )) (Reps.c3 (show Kd.M k53 _ _ _ (⟨(⟨#[101, 117, 114]⟩ : ByteArray), 6, 9782⟩ : S53) [.string (⟨#[101, 117, 114]⟩ : ByteArray), .int .i64 6, .int .i64 9782] from (k53_mkM _ _ _ (⟨(⟨#[101, 117, 114]⟩ : ByteArray), 6, 9782⟩ : S53) )) (Reps.c3 (show Kd.M k53 _ _ _ (⟨(⟨#[226, 130, 172]⟩ : ByteArray), 6, 9782⟩ : S53) [.string (⟨#[226, 130, 172]⟩ : ByteArray), .int .i64 6, .int .i64 9782] from (k53_mkM _ _ _ (⟨(⟨#[226, 130, 172]⟩ : ByteArray), 6, 9782⟩ : S53) )) (Reps.c3 (show Kd.M k53 _ _ _ (⟨(⟨#[121, 101, 110]⟩ : ByteArray), 6, 3920⟩ : S53) [.string (⟨#[121, 101, 110]⟩ : ByteArray), .int .i64 6, .int .i64 3920] from (k53_mkM _ _ _ (⟨(⟨#[121, 101, 110]⟩ : ByteArray), 6, 3920⟩ : S53) )) (Reps.c3 (show Kd.M k53 _ _ _ (⟨(⟨#[115]⟩ : ByteArray), 7, 1⟩ : S53) [.string (⟨#[115]⟩ : ByteArray), .int .i64 7, .int .i64 1] from (k53_mkM _ _ _ (⟨(⟨#[115]⟩ : ByteArray), 7, 1⟩ : S53) )) (Reps.c3 (show Kd.M k53 _ _ _ (⟨(⟨#[109, 105, 110]⟩ : ByteArray), 7, 60⟩ : S53) [.string (⟨#[109, 105, 110]⟩ : ByteArray), .int .i64 7, .int .i64 60] from (k53_mkM _ _ _ (⟨(⟨#[109, 105, 110]⟩ : ByteArray), 7, 60⟩ : S53) )) (Reps.c3 (show Kd.M k53 _ _ _ (⟨(⟨#[104]⟩ : ByteArray), 7, 3600⟩ : S53) [.string (⟨#[104]⟩ : ByteArray), .int .i64 7, .int .i64 3600] from (k53_mkM _ _ _ (⟨(⟨#[104]⟩ : ByteArray), 7, 3600⟩ : S53) )) (Reps.c3 (show Kd.M k53 _ _ _ (⟨(⟨#[116, 111]⟩ : ByteArray), 8, 0⟩ : S53) [.string (⟨#[116, 111]⟩ : ByteArray), .int .i64 8, .int .i64 0] from (k53_mkM _ _ _ (⟨(⟨#[116, 111]⟩ : ByteArray), 8, 0⟩ : S53) )) (Reps.c3 (show Kd.M k53 _ _ _ (⟨(⟨#[97]⟩ : ByteArray), 9, 1⟩ : S53) [.string (⟨#[97]⟩ : ByteArray), .int .i64 9, .int .i64 1] from (k53_mkM _ _ _ (⟨(⟨#[97]⟩ : ByteArray), 9, 1⟩ : S53) )) (Reps.none _ _)))))))))))))))))))))))); intro v199 w1 ho2 hb hg_ hnew_; clear hg_ hnew_; (first | rw [← Ny198.out] at ho2 | (simp only [Int.reduceToNat] at ho2; rw [← Ny198.out] at ho2)); have n0_ := Aside0.mk (Kd.R_lower ho2 (below_size (by exact wU HB.out))); have n1_ := Aside0.mk (below_step (by exact wU HB.out) hb); clear HB; have HO200 := n0_; have HB := n1_; clear n0_ n1_; clear hb ho2))
 go_ret
 exact ⟨_, by first | rfl | (simp [errW_none, errW_some] <;> rfl) | (simp [*, errW_none, errW_some] <;> rfl), by exact rU HO200.out, by exact wU HB.out⟩
def interlocutorlaw5_rule.f (a0 : Int) (l1 : List Int) (a2 : Int) (l3 : List Int) (a4 : Int) : Option (Int × List Int × Int × List Int × Int) := some (a0, l1, a2, l3, a4)
end Go.Proofs.Ytgbnfjhmobeloaa.G
