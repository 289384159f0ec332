import Derived.Test.YtjijikgandkphaaGreatDoorGx0
import Derived.Test.YtjijikgandkphaaGreatDoorGx9
import Derived.Test.YtjijikgandkphaaGreatDoorGx10
import Derived.Test.YtjijikgandkphaaGreatDoorGx11
namespace Go.Proofs.YtjijikgandkphaaGreatDoor.G
open Go.RowKit Go.Proofs.YtjijikgandkphaaGreatDoorW.PrintWords Go.Proofs.YtjijikgandkphaaGreatDoorW.PrintLast Go.Proofs.YtjijikgandkphaaGreatDoorW.PrintMore Go.Proofs.YtjijikgandkphaaGreatDoorW.VWords Go.Proofs.YtjijikgandkphaaGreatDoorW.Tab
attribute [local go_sem] max2_int min2_int max_two min_two max_three min_three max_four min_four
set_option linter.unusedVariables false
set_option linter.unusedSimpArgs false
theorem F_bnd {α : Type} {d : Kd α} {W : World} {ok : Nat → Prop} {A : Option Addr} {n : Nat} {xs : List α} (h : Kd.F d W ok A n xs) : Kd.F d W (fun k => ok k ∧ k < W.heap.size) A n xs := Foot.bound h
theorem atF_mono : ∀ k (l : List S33) i, LeO (atF k l i) (atF (k + 1) l i)
 | 0, _, _ => fun r h => by cases h
 | k + 1, l, i => by
  rw [atF, atF]
  exact LeO.ite (LeO.ite (LeO.refl _) (LeO.bind (atF_mono k l _) (fun p => LeO.refl _))) (LeO.refl _)
theorem resF_mono (k : Nat) (l : List S33) (id : ByteArray) : ∀ xs i, LeO (resF k l id xs i) (resF (k + 1) l id xs i)
 | [], _ => LeO.refl _
 | x :: xs, i => LeO.ite (atF_mono k l i) (resF_mono k l id xs (i + 1))
def interlocutorlaw6_Locale.f (k : Nat) (a0_0 a0_1 a0_2 a0_3 : Int) (l0_4 : List S85) (a0_5 : Bool) (a1 : Int) : Option (ByteArray × Int × Int × (List S89) × (List S110) × (List S37)) :=
 (interlocutorlaw5_Shape_Make.f a0_0 a0_1 a0_2 a0_3 l0_4 a0_5).bind fun l => (interlocutorlaw6_within.f a1 (l.length : Int)).bind fun t => if 0 ≤ t ∧ t < (l.length : Int) then (resF k l (rd_T33 l t).f0 l 0).bind fun r => some (r.f0, r.f1, r.f2, r.f3, r.f4, r.f5) else none
theorem interlocutorlaw6_Locale.mono : ∀ a0 a1 a2 a3 a4 a5 a6 k, LeO (interlocutorlaw6_Locale.f k a0 a1 a2 a3 a4 a5 a6) (interlocutorlaw6_Locale.f (k + 1) a0 a1 a2 a3 a4 a5 a6) := by
 intro a0 a1 a2 a3 a4 a5 a6 k
 exact LeO.bind (LeO.refl _) (fun l => LeO.bind (LeO.refl _) (fun t => LeO.ite (LeO.bind (resF_mono _ _ _ _ _) (fun r => LeO.refl _)) (LeO.refl _)))
set_option maxHeartbeats 8000000 in
set_option maxRecDepth 100000 in
theorem locale_walk (k : Nat) (a0_0 a0_1 a0_2 a0_3 : Int) (A0_4 : Option Addr) (c0_4 : Nat) (l0_4 : List S85) (a0_5 : Bool) (a1 : Int) (l : List S33) (t : Int) (x r : S33) (w : World) (hC : Kd.C k85 w A0_4 l0_4.length l0_4) (hc : l0_4.length ≤ c0_4)
  (hm : interlocutorlaw5_Shape_Make.f a0_0 a0_1 a0_2 a0_3 l0_4 a0_5 = some l) (ht : interlocutorlaw6_within.f a1 (l.length : Int) = some t) (q0 : 0 ≤ t) (q1 : t < (l.length : Int)) (hx : x = rd_T33 l t) (hr : resF k l x.f0 l 0 = some r) :
  Calls Tryz.prog 11 #[.agg #[.int .i64 a0_0, .int .i64 a0_1, .int .i64 a0_2, .int .i64 a0_3, .slice A0_4 l0_4.length c0_4, .bool a0_5], .int .i64 a1] w fun e w' => ∃ P3 d3 P4 d4 P5 d5, e = .returned (.agg #[.string r.f0, .int .i64 r.f1, .int .i64 r.f2, .slice P3 r.f3.length d3, .slice P4 r.f4.length d4, .slice P5 r.f5.length d5]) ∧ r.f3.length ≤ d3 ∧ Kd.F k89 w' (fun b => w.heap.size ≤ b) P3 r.f3.length r.f3 ∧ r.f4.length ≤ d4 ∧ Kd.F k110 w' (fun b => w.heap.size ≤ b) P4 r.f4.length r.f4 ∧ r.f5.length ≤ d5 ∧ Kd.F k37 w' (fun b => w.heap.size ≤ b) P5 r.f5.length r.f5 ∧ Below w.heap.size w w' := by
 have hu24 := Tryz.underlying24
 have hu32 := Tryz.underlying33
 have hu62 := Tryz.underlying60
 have HC := Aside0.mk hC
 have HCC := Aside0.mk hc
 have HM := Aside0.mk hm
 have HT := Aside0.mk ht
 have HX := Aside0.mk hx
 have HR := Aside0.mk hr
 clear hC hc hm ht hx hr
 go_enter Tryz.func11, Tryz.ntmps11
 go_wp2_with (first
  | ((with_reducible refine gate_dst (N := 2) rfl ?_); refine box_event ?hg (N := 2) ?hd (cs := #[.int .i64 a0_0, .int .i64 a0_1, .int .i64 a0_2, .int .i64 a0_3, .slice A0_4 l0_4.length c0_4, .bool a0_5]) (t := 24) ?hr ?_; (case hd => rfl); (case hg => rfl); (case hr => first | (go_simp; done) | (go_simp; rfl)); intro g2 hg2 w2 hbox hb; have B2 := Aside0.mk hbox; have HD := Aside0.mk hb; clear hbox hb hg2)
  | ((with_reducible refine gate_dst (N := 4) rfl ?_); refine box_event ?hg (N := 4) ?hd (cs := #[.string (⟨#[]⟩ : ByteArray), .int .i64 0, .int .i64 0, .slice none 0 0, .slice none 0 0, .slice none 0 0]) (t := 33) ?hr ?_; (case hd => rfl); (case hg => rfl); (case hr => first | (go_simp; done) | (go_simp; rfl)); intro g4 hg4 w4 hbox hb; have NQ4 := Aside0.mk (show w.heap.size ≤ g4 by rw [hg4]; exact below_size HD.out); have B4 := Aside0.mk hbox; have B2' := Aside0.mk (blk_below B2.out hb); have HD2 := Aside0.mk (below_step HD.out hb); clear hbox hb hg4 B2 HD; have HD := HD2; clear HD2; have s0 : w4.cell? ⟨g2, 0, none⟩ = some (.int .i64 a0_0) := (blk_cell B2'.out 0).trans rfl; have s1 : w4.cell? ⟨g2, 1, none⟩ = some (.int .i64 a0_1) := (blk_cell B2'.out 1).trans rfl; have s2 : w4.cell? ⟨g2, 2, none⟩ = some (.int .i64 a0_2) := (blk_cell B2'.out 2).trans rfl; have s3 : w4.cell? ⟨g2, 3, none⟩ = some (.int .i64 a0_3) := (blk_cell B2'.out 3).trans rfl; have s4 : w4.cell? ⟨g2, 4, none⟩ = some (.slice A0_4 l0_4.length c0_4) := (blk_cell B2'.out 4).trans rfl; have s5 : w4.cell? ⟨g2, 5, none⟩ = some (.bool a0_5) := (blk_cell B2'.out 5).trans rfl)
  | (go_at_call 24; (with_reducible refine (interlocutorlaw5_Shape_Make.calls a0_0 a0_1 a0_2 a0_3 A0_4 c0_4 l0_4 a0_5 l _ (Kd.C_below HC.out HD.out) HCC.out HM.out).mono ?_); rintro e wm ⟨v, rfl, ho, hb⟩; obtain ⟨A, c, e⟩ := Kd.N_slice ho; subst e; have HF := Aside0.mk (Kd.F_mono (ok' := fun b => w.heap.size ≤ b ∧ b ≠ g4) (Kd.N_F ho) (fun b hk => ⟨Nat.le_trans (below_size HD.out) hk, fun e => by have := blk_lt B4.out; omega⟩)); have HLC := Aside0.mk (Kd.N_reads' ho).2.1; replace B4 := Aside0.mk (blk_below B4.out hb); replace HD := Aside0.mk (below_step HD.out hb); clear ho hb s0 s1 s2 s3 s4 s5 B2')
  | (go_at_call 26; (with_reducible refine (interlocutorlaw6_within.calls a1 (l.length : Int) t _ HT.out).mono ?_); rintro e wt ⟨rfl, hd⟩; replace HF := Aside0.mk (Kd.F_below HF.out (show Below wm.heap.size wm wt from hd.below)); replace B4 := Aside0.mk (blk_below B4.out hd.below); replace HD := Aside0.mk (below_step HD.out hd.below); obtain ⟨ad, A3, c3, A4, c4, A5, c5, e, hx0, hx1, hx2, hx3, hx4, hx5, l3, f3, l4, f4, l5, f5⟩ := at_F HF.out t q0 q1 x HX.out; subst e; clear hd hx1 hx2 hx3 hx4 hx5 l3 f3 l4 f4 l5 f5)
  | (go_at_call 25; (with_reducible refine (resolve_walk k l x.f0 r (fun b => w.heap.size ≤ b ∧ b ≠ g4) wt.heap.size (some ad) c wt (Nat.le_refl _) (F_bnd HF.out) HLC.out HR.out).mono ?_); rintro e wr ⟨P3, d3, P4, d4, P5, d5, rfl, m3, y3, m4, y4, m5, y5, hb⟩; have SZ := Aside0.mk (below_size HD.out); have LT := Aside0.mk (blk_lt B4.out); have oo : ∀ b, ((((w.heap.size ≤ b ∧ b ≠ g4) ∧ b < wt.heap.size) ∨ wt.heap.size ≤ b) ∧ b < wr.heap.size) → (w.heap.size ≤ b ∧ b ≠ g4) ∧ b < wr.heap.size := (fun b hb => ⟨hb.1.elim (fun h => h.1) (fun h => ⟨Nat.le_trans SZ.out h, fun e => by have := LT.out; omega⟩), hb.2⟩); replace B4 := Aside0.mk (blk_below B4.out hb); replace HD := Aside0.mk (below_step HD.out hb); have FR := Aside0.mk (And.intro m3 (And.intro (Kd.F_mono (F_bnd y3) oo) (And.intro m4 (And.intro (Kd.F_mono (F_bnd y4) oo) (And.intro m5 (Kd.F_mono (F_bnd y5) oo)))))); clear m3 y3 m4 y4 m5 y5 hb oo HF hx0)
  | ((with_reducible refine gate_dst (N := 6) rfl ?_); refine box_event ?hg (N := 6) ?hd (cs := #[.string (⟨#[]⟩ : ByteArray), .int .i64 0, .int .i64 0, .slice none 0 0, .slice none 0 0, .slice none 0 0]) (t := 33) ?hr ?_; (case hd => rfl); (case hg => rfl); (case hr => first | (go_simp; done) | (go_simp; rfl)); intro g6 hg6 w6 hbox hb; have E6 := Aside0.mk hg6; have B6 := Aside0.mk hbox; have H6 := Aside0.mk hb; have B46 := Aside0.mk (blk_below B4.out hb); have hn64 : g6 ≠ g4 := (by have := blk_lt B4.out; omega); have hn46 := Ne.symm hn64; clear hbox hb hg6; have p0 : w6.cell? ⟨g6, 0, none⟩ = some (.string (⟨#[]⟩ : ByteArray)) := (blk_cell B6.out 0).trans rfl; have pf0 := blk_frozen B6.out 0; have q0_ : w6.cell? ⟨g4, 0, none⟩ = some (.string (⟨#[]⟩ : ByteArray)) := (blk_cell B46.out 0).trans rfl; have qf0 := blk_frozen B46.out 0; have p1 : w6.cell? ⟨g6, 1, none⟩ = some (.int .i64 0) := (blk_cell B6.out 1).trans rfl; have pf1 := blk_frozen B6.out 1; have q1_ : w6.cell? ⟨g4, 1, none⟩ = some (.int .i64 0) := (blk_cell B46.out 1).trans rfl; have qf1 := blk_frozen B46.out 1; have p2 : w6.cell? ⟨g6, 2, none⟩ = some (.int .i64 0) := (blk_cell B6.out 2).trans rfl; have pf2 := blk_frozen B6.out 2; have q2_ : w6.cell? ⟨g4, 2, none⟩ = some (.int .i64 0) := (blk_cell B46.out 2).trans rfl; have qf2 := blk_frozen B46.out 2; have p3 : w6.cell? ⟨g6, 3, none⟩ = some (.slice none 0 0) := (blk_cell B6.out 3).trans rfl; have pf3 := blk_frozen B6.out 3; have q3_ : w6.cell? ⟨g4, 3, none⟩ = some (.slice none 0 0) := (blk_cell B46.out 3).trans rfl; have qf3 := blk_frozen B46.out 3; have p4 : w6.cell? ⟨g6, 4, none⟩ = some (.slice none 0 0) := (blk_cell B6.out 4).trans rfl; have pf4 := blk_frozen B6.out 4; have q4_ : w6.cell? ⟨g4, 4, none⟩ = some (.slice none 0 0) := (blk_cell B46.out 4).trans rfl; have qf4 := blk_frozen B46.out 4; have p5 : w6.cell? ⟨g6, 5, none⟩ = some (.slice none 0 0) := (blk_cell B6.out 5).trans rfl; have pf5 := blk_frozen B6.out 5; have q5_ : w6.cell? ⟨g4, 5, none⟩ = some (.slice none 0 0) := (blk_cell B46.out 5).trans rfl; have qf5 := blk_frozen B46.out 5))
 obtain ⟨m3, y3, m4, y4, m5, y5⟩ := FR.out
 have k4 := set6_blk ((set6_far w6 g6 g4 (.string r.f0) (.int .i64 r.f1) (.int .i64 r.f2) (.slice P3 r.f3.length d3) (.slice P4 r.f4.length d4) (.slice P5 r.f5.length d5) hn46).trans B46.out) (.string r.f0) (.int .i64 r.f1) (.int .i64 r.f2) (.slice P3 r.f3.length d3) (.slice P4 r.f4.length d4) (.slice P5 r.f5.length d5)
 have s : ∀ b, ((w.heap.size ≤ b ∧ b ≠ g4) ∧ b < wr.heap.size) → b < wr.heap.size → (set6 (set6 w6 g6 (.string r.f0) (.int .i64 r.f1) (.int .i64 r.f2) (.slice P3 r.f3.length d3) (.slice P4 r.f4.length d4) (.slice P5 r.f5.length d5)) g4 (.string r.f0) (.int .i64 r.f1) (.int .i64 r.f2) (.slice P3 r.f3.length d3) (.slice P4 r.f4.length d4) (.slice P5 r.f5.length d5)).heap[b]? = wr.heap[b]? := fun b hb hlt => by
  have := E6.out
  rw [set6_far _ _ _ _ _ _ _ _ _ hb.1.2, set6_far _ _ _ _ _ _ _ _ _ (by omega)]
  exact H6.out.block b hlt
 have n6 : w.heap.size ≤ g6 := by rw [E6.out]; exact below_size HD.out
 refine bodyPost_ret (results_cell_row rfl _ _ g4 33 #[.string r.f0, .int .i64 r.f1, .int .i64 r.f2, .slice P3 r.f3.length d3, .slice P4 r.f4.length d4, .slice P5 r.f5.length d5] (0, 0) _ rfl k4 Tryz.underlying33 rfl (by kernel_rfl)) rfl ?_
 have o : ∀ b, ((w.heap.size ≤ b ∧ b ≠ g4) ∧ b < wr.heap.size) → w.heap.size ≤ b := fun b hb => hb.1.1
 exact ⟨P3, d3, P4, d4, P5, d5, by first | rfl | simp, m3, Kd.F_mono (Kd.F_step y3 s) o, m4, Kd.F_mono (Kd.F_step y4 s) o, m5, Kd.F_mono (Kd.F_step y5 s) o, set6_below _ _ _ _ _ _ (set6_below _ _ _ _ _ _ (below_step HD.out H6.out) n6) NQ4.out⟩
theorem interlocutorlaw6_Locale.calls (k : Nat) (a0_0 : Int) (a0_1 : Int) (a0_2 : Int) (a0_3 : Int) (A0_4 : Option Addr) (c0_4 : Nat) (l0_4 : List (S85)) (a0_5 : Bool) (a1 : Int) (r1 : ByteArray) (r2 : Int) (r3 : Int) (r4 : List (S89)) (r5 : List (S110)) (r6 : List (S37)) (w : World) (hr0_4 : Kd.C k85 w A0_4 l0_4.length l0_4) (hc0_4 : l0_4.length ≤ c0_4) (h : interlocutorlaw6_Locale.f k a0_0 a0_1 a0_2 a0_3 l0_4 a0_5 a1 = some (r1, r2, r3, r4, r5, r6)) :
  Calls Tryz.prog 11 #[.agg #[.int .i64 a0_0, .int .i64 a0_1, .int .i64 a0_2, .int .i64 a0_3, .slice A0_4 l0_4.length c0_4, .bool a0_5], .int .i64 a1] w fun e w' => ∃ v3_ v4_ v5_ : Value, e = .returned (.agg #[.string r1, .int .i64 r2, .int .i64 r3, v3_, v4_, v5_]) ∧ Kd.V k89 89 w' w.heap.size (fun k_ => (w.heap.size ≤ k_)) v3_ r4 ∧ Kd.V k110 110 w' w.heap.size (fun k_ => (w.heap.size ≤ k_)) v4_ r5 ∧ Kd.V k37 37 w' w.heap.size (fun k_ => (w.heap.size ≤ k_)) v5_ r6 ∧ Below w.heap.size w w' := by
 obtain ⟨l, hm, h⟩ := Option.bind_eq_some_iff.mp h
 obtain ⟨t, ht, h⟩ := Option.bind_eq_some_iff.mp h
 by_cases hq : 0 ≤ t ∧ t < (l.length : Int)
 ·rw [if_pos hq] at h
  obtain ⟨r, hr, h⟩ := Option.bind_eq_some_iff.mp h
  simp only [Option.some.injEq, Prod.mk.injEq] at h
  obtain ⟨rfl, rfl, rfl, rfl, rfl, rfl⟩ := h
  refine (locale_walk k a0_0 a0_1 a0_2 a0_3 A0_4 c0_4 l0_4 a0_5 a1 l t _ r w hr0_4 hc0_4 hm ht hq.1 hq.2 rfl hr).mono ?_
  rintro e w' ⟨P3, d3, P4, d4, P5, d5, rfl, m3, y3, m4, y4, m5, y5, hb⟩
  exact ⟨_, _, _, rfl, ⟨P3, d3, rfl, m3, y3⟩, ⟨P4, d4, rfl, m4, y4⟩, ⟨P5, d5, rfl, m5, y5⟩, hb⟩
 ·rw [if_neg hq] at h
  cases h
def act_fields.f (a0 : Int) : Option (Int) := if a0 < 4 then (some (-1)) else (if a0 > 10 then (some (-1)) else ((some (([3, 3, 6, 2, 2, 1, 6] : List Int) : List Int)).bind fun y126 => (if 0 ≤ (wrap64 (a0 - 4)) then (if (wrap64 (a0 - 4)) < (y126.length : Int) then (some (rd y126 (wrap64 (a0 - 4)))) else (none)) else (none))))
set_option maxHeartbeats 8000000 in
set_option maxRecDepth 100000 in
theorem act_fields.calls (a0 : Int) (r : Int) (w : World) (h : act_fields.f a0 = some r) :
  Calls Tryz.prog 50 #[.int .i64 a0] w fun e w' => e = .returned (.int .i64 r) ∧ Below w.heap.size w w' := by
 have HB := Aside0.mk (Below.refl w.heap.size w)
 have H : (if a0 < 4 then (some (-1)) else (if a0 > 10 then (some (-1)) else ((some (([3, 3, 6, 2, 2, 1, 6] : List Int) : List Int)).bind fun y126 => (if 0 ≤ (wrap64 (a0 - 4)) then (if (wrap64 (a0 - 4)) < (y126.length : Int) then (some (rd y126 (wrap64 (a0 - 4)))) else (none)) else (none))))) = some r := h
 clear h
 by_cases c2 : a0 < 4
 ·rw [if_pos c2] at H
  have c2b0 : decide (a0 < 4) = true := decide_eq_true c2
  clear c2
  obtain rfl := Option.some.inj H
  go_enter Tryz.func50, Tryz.ntmps50
  go_wp2
  go_ret
  exact ⟨by first | rfl | (simp [errW_none, errW_some] <;> rfl) | (simp [*, errW_none, errW_some] <;> rfl), by exact wU HB.out⟩
 ·rw [if_neg c2] at H
  have c2b0 : decide (a0 < 4) = false := decide_eq_false c2
  clear c2
  by_cases c3 : a0 > 10
  ·rw [if_pos c3] at H
   have c3b0 : decide (10 < a0) = true := decide_eq_true c3
   clear c3
   obtain rfl := Option.some.inj H
   go_enter Tryz.func50, Tryz.ntmps50
   go_wp2
   go_ret
   exact ⟨by first | rfl | (simp [errW_none, errW_some] <;> rfl) | (simp [*, errW_none, errW_some] <;> rfl), by exact wU HB.out⟩
  ·rw [if_neg c3] at H
   have c3b0 : decide (10 < a0) = false := decide_eq_false c3
   clear c3
   obtain ⟨y126, hy126⟩ : ∃ y_ : List Int, y_ = (([3, 3, 6, 2, 2, 1, 6] : List Int)) := ⟨_, rfl⟩
   replace H : (if 0 ≤ (wrap64 (a0 - 4)) then (if (wrap64 (a0 - 4)) < (y126.length : Int) then (some (rd y126 (wrap64 (a0 - 4)))) else (none)) else (none)) = some r := by first | (rw [hy126]; with_reducible exact H) | (have H2_ := (Option.bind_some _ _).symm.trans H; rw [hy126]; with_reducible exact H2_) | (have H2_ := (Option.bind_some _ _).symm.trans H; with_reducible exact H2_) | with_reducible exact H | (rw [hy126]; exact H) | exact H
   have Ny126 := Aside0.mk hy126
   clear hy126
   obtain ⟨ji4, hji4⟩ : ∃ j_ : Int, (wrap64 (a0 - 4)) = j_ := ⟨_, rfl⟩
   replace H : (if 0 ≤ (ji4) then (if (ji4) < (y126.length : Int) then (some (rd y126 (ji4))) else (none)) else (none)) = some r := by first | (rw [hji4] at H; exact H) | (simp only [hji4] at H ⊢; exact H)
   have hji4w : (IntKind.i64.wrap (a0 - 4)) = ji4 := (i64_w _).trans hji4
   by_cases c5 : 0 ≤ (ji4)
   ·rw [if_pos c5] at H
    have c5b0 : decide (0 ≤ (ji4)) = true := decide_eq_true c5
    clear c5
    by_cases c6 : (ji4) < (y126.length : Int)
    ·rw [if_pos c6] at H
     have c6b0 : decide ((ji4) < (y126.length : Int)) = true := decide_eq_true c6
     clear c6
     obtain rfl := Option.some.inj H
     go_enter Tryz.func50, Tryz.ntmps50
     go_wp2_with (first | ((with_reducible refine gate_dst (N := 9) rfl ?_); refine Kd.R_lit (Kd.int .i64) _ 3 ?hg (N := 9) ?hd (xs := ([3, 3, 6, 2, 2, 1, 6] : List Int)) (inner := [.int .i64 3, .int .i64 3, .int .i64 6, .int .i64 2, .int .i64 2, .int .i64 1, .int .i64 6]) (ok := fun _ => True) (okp := fun _ => True) ?hr ?hp (fun _ hk => hk) trivial (Below.refl _ _) (Nat.le_refl _) (by simp) ?_; (case hd => rfl); (case hg => rfl); (case hr => first | (go_simp; done) | (go_simp; rfl)); (case hp => exact (Reps.one (show Kd.M (Kd.int .i64) _ _ _ 3 [.int .i64 3] from rfl) (Reps.one (show Kd.M (Kd.int .i64) _ _ _ 3 [.int .i64 3] from rfl) (Reps.one (show Kd.M (Kd.int .i64) _ _ _ 6 [.int .i64 6] from rfl) (Reps.one (show Kd.M (Kd.int .i64) _ _ _ 2 [.int .i64 2] from rfl) (Reps.one (show Kd.M (Kd.int .i64) _ _ _ 2 [.int .i64 2] from rfl) (Reps.one (show Kd.M (Kd.int .i64) _ _ _ 1 [.int .i64 1] from rfl) (Reps.one (show Kd.M (Kd.int .i64) _ _ _ 6 [.int .i64 6] from rfl) (Reps.none _ _))))))))); intro v127 w7 ho8 hb hg_ hnew_; clear hg_ hnew_; (first | rw [← Ny126.out] at ho8 | (simp only [Int.reduceToNat] at ho8; rw [← Ny126.out] at ho8)); have n0_ := Aside0.mk (Kd.R_lower ho8 (below_size (by exact wU HB.out))); have n1_ := Aside0.mk (below_step (by exact wU HB.out) hb); clear HB; have HO128 := n0_; have HB := n1_; clear n0_ n1_; clear hb ho8; obtain ⟨Ao9, co9, eo9⟩ := Kd.R_slice HO128.out; subst eo9; have p129 : 0 ≤ ((ji4) : Int) := of_decide_eq_true (by first | (with_reducible assumption) | assumption); have q129 : (ji4) < (y126.length : Int) := of_decide_eq_true (by first | (with_reducible assumption) | assumption); obtain ⟨ad129, e129, hx129_0⟩ := Kd.at_int (Kd.R_reads' HO128.out).2.2 (ji4) p129 q129; cases e129; replace p129 := eq_true p129; replace q129 := eq_true q129))
     go_ret
     exact ⟨by first | rfl | (simp [errW_none, errW_some] <;> rfl) | (simp only [← hji4]; first | rfl | (simp [errW_none, errW_some] <;> rfl)) | (simp [*, errW_none, errW_some] <;> rfl), by exact wU HB.out⟩
    ·rw [if_neg c6] at H
     exact absurd H (by simp)
   ·rw [if_neg c5] at H
    exact absurd H (by simp)
def civil_leap.f (a0 : Int) : Option (Bool) := if (Int.tmod a0 4) = 0 then (if (Int.tmod a0 100) = 0 then (some ((Int.tmod a0 400) == 0)) else (some true)) else (some ((Int.tmod a0 400) == 0))
set_option maxHeartbeats 8000000 in
set_option maxRecDepth 100000 in
theorem civil_leap.calls (a0 : Int) (r : Bool) (w : World) (h : civil_leap.f a0 = some r) :
  Calls Tryz.prog 118 #[.int .i64 a0] w fun e w' => e = .returned (.bool r) ∧ Drawn0 w w' := by
 have H : (if (Int.tmod a0 4) = 0 then (if (Int.tmod a0 100) = 0 then (some ((Int.tmod a0 400) == 0)) else (some true)) else (some ((Int.tmod a0 400) == 0))) = some r := h
 clear h
 by_cases c2 : (Int.tmod a0 4) = 0
 ·rw [if_pos c2] at H
  have c2b0 : ((Int.tmod a0 4) == 0) = true := beq_iff_eq.mpr c2
  have c2b1 : ((Int.tmod a0 4) != 0) = false := bne_eq_false_iff_eq.mpr c2
  clear c2
  by_cases c3 : (Int.tmod a0 100) = 0
  ·rw [if_pos c3] at H
   have c3b0 : ((Int.tmod a0 100) == 0) = true := beq_iff_eq.mpr c3
   have c3b1 : ((Int.tmod a0 100) != 0) = false := bne_eq_false_iff_eq.mpr c3
   clear c3
   obtain rfl := Option.some.inj H
   go_enter Tryz.func118, Tryz.ntmps118
   go_wp2
   go_ret
   exact ⟨by first | rfl | (simp; done) | (simp [*]; done), by repeat (first | exact Drawn0.refl _ | apply Drawn0.step)⟩
  ·rw [if_neg c3] at H
   have c3b0 : ((Int.tmod a0 100) == 0) = false := beq_eq_false_iff_ne.mpr c3
   have c3b1 : ((Int.tmod a0 100) != 0) = true := bne_iff_ne.mpr c3
   obtain rfl := Option.some.inj H
   go_enter Tryz.func118, Tryz.ntmps118
   go_wp2
   go_ret
   exact ⟨by first | rfl | (simp; done) | (simp [*]; done), by repeat (first | exact Drawn0.refl _ | apply Drawn0.step)⟩
 ·rw [if_neg c2] at H
  have c2b0 : ((Int.tmod a0 4) == 0) = false := beq_eq_false_iff_ne.mpr c2
  have c2b1 : ((Int.tmod a0 4) != 0) = true := bne_iff_ne.mpr c2
  obtain rfl := Option.some.inj H
  go_enter Tryz.func118, Tryz.ntmps118
  go_wp2
  go_ret
  exact ⟨by first | rfl | (simp; done) | (simp [*]; done), by repeat (first | exact Drawn0.refl _ | apply Drawn0.step)⟩
def civil_Length.f (a0 : Int) (a1 : Int) : Option (Int) := if a1 = 2 then ((civil_leap.f a0).bind fun t130 => (if t130 = true then (some 29) else (some 28))) else (if a1 = 4 then (some 30) else (if a1 = 6 then (some 30) else (if a1 = 9 then (some 30) else (if a1 = 11 then (some 30) else (some 31)))))
set_option maxHeartbeats 8000000 in
set_option maxRecDepth 100000 in
theorem civil_Length.calls (a0 : Int) (a1 : Int) (r : Int) (w : World) (h : civil_Length.f a0 a1 = some r) :
  Calls Tryz.prog 101 #[.int .i64 a0, .int .i64 a1] w fun e w' => e = .returned (.int .i64 r) ∧ Drawn0 w w' := by
 have H : (if a1 = 2 then ((civil_leap.f a0).bind fun t130 => (if t130 = true then (some 29) else (some 28))) else (if a1 = 4 then (some 30) else (if a1 = 6 then (some 30) else (if a1 = 9 then (some 30) else (if a1 = 11 then (some 30) else (some 31)))))) = some r := h
 clear h
 by_cases c3 : a1 = 2
 ·rw [if_pos c3] at H
  have c3b0 : (a1 == 2) = true := beq_iff_eq.mpr c3
  have c3b1 : (a1 != 2) = false := bne_eq_false_iff_eq.mpr c3
  clear c3
  replace H := Option.bind_eq_some_iff.mp H
  obtain ⟨t130, A40, H⟩ := H
  replace H : (if t130 = true then (some 29) else (some 28)) = some r := H
  have A4 := Aside0.mk A40
  clear A40
  by_cases c5 : t130 = true
  ·subst c5
   have H1 : (some 29) = some r := by rw [if_pos rfl] at H; exact H
   clear H
   have H := H1
   clear H1
   obtain rfl := Option.some.inj H
   go_enter Tryz.func101, Tryz.ntmps101
   go_wp2_with (first | ((with_reducible refine gate_callee (f := 118) rfl ?_); refine goesL_ (some 9) rfl rfl Tryz.func118 (by kernel_rfl) rfl #[.int .i64 a0] rfl (by (try simp only [List.map_toArray, List.map_cons, List.map_nil]); first | done | rfl | (simp only [List.length_drop, List.length_take]; rfl)) ?_; (with_reducible refine (civil_leap.calls a0 true _ A4.out).mono ?_); rintro e w' ⟨rfl, ⟨nd, rfl⟩⟩; refine ⟨_, rfl, ?_⟩))
   go_ret
   exact ⟨by first | rfl | (simp; done) | (simp [*]; done), by repeat (first | exact Drawn0.refl _ | apply Drawn0.step)⟩
  ·replace c5 := Bool.eq_false_iff.mpr c5
   subst c5
   have H1 : (some 28) = some r := by rw [if_neg (show ¬ (false = true) by decide)] at H; exact H
   clear H
   have H := H1
   clear H1
   obtain rfl := Option.some.inj H
   go_enter Tryz.func101, Tryz.ntmps101
   go_wp2_with (first | ((with_reducible refine gate_callee (f := 118) rfl ?_); refine goesL_ (some 9) rfl rfl Tryz.func118 (by kernel_rfl) rfl #[.int .i64 a0] rfl (by (try simp only [List.map_toArray, List.map_cons, List.map_nil]); first | done | rfl | (simp only [List.length_drop, List.length_take]; rfl)) ?_; (with_reducible refine (civil_leap.calls a0 false _ A4.out).mono ?_); rintro e w' ⟨rfl, ⟨nd, rfl⟩⟩; refine ⟨_, rfl, ?_⟩))
   go_ret
   exact ⟨by first | rfl | (simp; done) | (simp [*]; done), by repeat (first | exact Drawn0.refl _ | apply Drawn0.step)⟩
 ·rw [if_neg c3] at H
  have c3b0 : (a1 == 2) = false := beq_eq_false_iff_ne.mpr c3
  have c3b1 : (a1 != 2) = true := bne_iff_ne.mpr c3
  by_cases c6 : a1 = 4
  ·rw [if_pos c6] at H
   have c6b0 : (a1 == 4) = true := beq_iff_eq.mpr c6
   have c6b1 : (a1 != 4) = false := bne_eq_false_iff_eq.mpr c6
   clear c6
   obtain rfl := Option.some.inj H
   go_enter Tryz.func101, Tryz.ntmps101
   go_wp2
   go_ret
   exact ⟨by first | rfl | (simp; done) | (simp [*]; done), by repeat (first | exact Drawn0.refl _ | apply Drawn0.step)⟩
  ·rw [if_neg c6] at H
   have c6b0 : (a1 == 4) = false := beq_eq_false_iff_ne.mpr c6
   have c6b1 : (a1 != 4) = true := bne_iff_ne.mpr c6
   by_cases c7 : a1 = 6
   ·rw [if_pos c7] at H
    have c7b0 : (a1 == 6) = true := beq_iff_eq.mpr c7
    have c7b1 : (a1 != 6) = false := bne_eq_false_iff_eq.mpr c7
    clear c7
    obtain rfl := Option.some.inj H
    go_enter Tryz.func101, Tryz.ntmps101
    go_wp2
    go_ret
    exact ⟨by first | rfl | (simp; done) | (simp [*]; done), by repeat (first | exact Drawn0.refl _ | apply Drawn0.step)⟩
   ·rw [if_neg c7] at H
    have c7b0 : (a1 == 6) = false := beq_eq_false_iff_ne.mpr c7
    have c7b1 : (a1 != 6) = true := bne_iff_ne.mpr c7
    by_cases c8 : a1 = 9
    ·rw [if_pos c8] at H
     have c8b0 : (a1 == 9) = true := beq_iff_eq.mpr c8
     have c8b1 : (a1 != 9) = false := bne_eq_false_iff_eq.mpr c8
     clear c8
     obtain rfl := Option.some.inj H
     go_enter Tryz.func101, Tryz.ntmps101
     go_wp2
     go_ret
     exact ⟨by first | rfl | (simp; done) | (simp [*]; done), by repeat (first | exact Drawn0.refl _ | apply Drawn0.step)⟩
    ·rw [if_neg c8] at H
     have c8b0 : (a1 == 9) = false := beq_eq_false_iff_ne.mpr c8
     have c8b1 : (a1 != 9) = true := bne_iff_ne.mpr c8
     by_cases c9 : a1 = 11
     ·rw [if_pos c9] at H
      have c9b0 : (a1 == 11) = true := beq_iff_eq.mpr c9
      have c9b1 : (a1 != 11) = false := bne_eq_false_iff_eq.mpr c9
      clear c9
      obtain rfl := Option.some.inj H
      go_enter Tryz.func101, Tryz.ntmps101
      go_wp2
      go_ret
      exact ⟨by first | rfl | (simp; done) | (simp [*]; done), by repeat (first | exact Drawn0.refl _ | apply Drawn0.step)⟩
     ·rw [if_neg c9] at H
      have c9b0 : (a1 == 11) = false := beq_eq_false_iff_ne.mpr c9
      have c9b1 : (a1 != 11) = true := bne_iff_ne.mpr c9
      obtain rfl := Option.some.inj H
      go_enter Tryz.func101, Tryz.ntmps101
      go_wp2
      go_ret
      exact ⟨by first | rfl | (simp; done) | (simp [*]; done), by repeat (first | exact Drawn0.refl _ | apply Drawn0.step)⟩
theorem eqDay3 (d : Nat) (w : World) (x0 x1 x2 y0 y1 y2 : Int) :
  (Op.equalIn (d + 2) 136 (.agg #[.int .i64 x0, .int .i64 x1, .int .i64 x2]) (.agg #[.int .i64 y0, .int .i64 y1, .int .i64 y2])).run Tryz.prog w = .ok (x0 == y0 && (x1 == y1 && x2 == y2)) w := by
 have hu := Tryz.underlying136
 have h3 := Tryz.underlying3
 have e : ∀ a b : Int, (Op.equalIn (d + 1) 3 (.int .i64 a) (.int .i64 b)).run Tryz.prog w = .ok (a == b) w := fun a b => by
  rw [Op.equalIn]; go_simp
 rw [Op.equalIn]
 simp only [Sem.run_bind, run_underlying hu, Result.andThen_ok]
 rw [show (Sem.run Tryz.prog (sizeOf 3) w) = .ok 1 w by go_simp]
 have pt : ∀ (xs : Array Value) (i : Nat) (a : Int), xs[i]? = some (.int .i64 a) → (part 3 xs i).run Tryz.prog w = .ok (.int .i64 a) w := fun xs i a h => by go_simp
 simp only [Result.andThen_ok, Nat.mul_one]
 simp only [Std.Legacy.Range.forIn_eq_forIn_range', Std.Legacy.Range.size, Nat.sub_zero, Nat.add_sub_cancel, Nat.div_one, List.range', List.forIn_cons, Sem.run_bind]
 have p0 := pt #[.int .i64 x0, .int .i64 x1, .int .i64 x2] 0 x0 rfl
 have p1 := pt #[.int .i64 x0, .int .i64 x1, .int .i64 x2] (0 + 1) x1 rfl
 have p2 := pt #[.int .i64 x0, .int .i64 x1, .int .i64 x2] (0 + 1 + 1) x2 rfl
 have r0 := pt #[.int .i64 y0, .int .i64 y1, .int .i64 y2] 0 y0 rfl
 have r1 := pt #[.int .i64 y0, .int .i64 y1, .int .i64 y2] (0 + 1) y1 rfl
 have r2 := pt #[.int .i64 y0, .int .i64 y1, .int .i64 y2] (0 + 1 + 1) y2 rfl
 simp only [p0, r0, e, Result.andThen_ok]
 cases x0 == y0
 ·simp
 ·simp only [Sem.run_bind, Sem.run_pure, Result.andThen_ok, p1, r1, e, Bool.not_true, Bool.false_eq_true, if_false]
  cases x1 == y1
  ·simp
  ·simp only [Sem.run_bind, Sem.run_pure, Result.andThen_ok, p2, r2, e, Bool.not_true, Bool.false_eq_true, if_false]
   cases x2 == y2
   ·simp
   ·simp
attribute [local go_sem high] eqDay3
def civil_Right.f (y m d h i s : Int) : Option Bool :=
 (civil_Length.f y m).bind fun n => some (!decide (y < 1) && (!decide (9999 < y) && (!decide (m < 1) && (!decide (12 < m) && (!decide (d < 1) && (!decide (n < d) && decide (mx 0 (mn h 23) = h ∧ mx 0 (mn i 59) = i ∧ mx 0 (mn s 59) = s)))))))
set_option maxHeartbeats 8000000 in
set_option maxRecDepth 100000 in
theorem civil_Right.calls (y m d h i s : Int) (r : Bool) (w : World) (hr : civil_Right.f y m d h i s = some r) : Calls Tryz.prog 75 #[.agg #[.int .i64 y, .int .i64 m, .int .i64 d, .int .i64 h, .int .i64 i, .int .i64 s]] w fun e w' => e = .returned (.bool r) ∧ Below w.heap.size w w' := by
 have hu77 := Tryz.underlying116
 obtain ⟨n, hn, e⟩ := Option.bind_eq_some_iff.mp hr
 have HN := Aside0.mk hn
 have HR := Aside0.mk (Option.some.inj e)
 clear hr hn e
 cases c0 : decide (y < 1) with
 | true =>
  have e : r = false := by rw [← HR.out]; simp only [c0, Bool.not_true, Bool.not_false, Bool.false_and, Bool.true_and]
  subst e
  go_enter Tryz.func75, Tryz.ntmps75
  go_wp2_with (first | ((with_reducible refine gate_dst (N := 1) rfl ?_); refine box_event ?hg (N := 1) ?hd (cs := #[.int .i64 y, .int .i64 m, .int .i64 d, .int .i64 h, .int .i64 i, .int .i64 s]) (t := 116) ?hr ?_; (case hd => rfl); (case hg => rfl); (case hr => first | (go_simp; done) | (go_simp; rfl)); intro g1 hg1 wg hbox hb; have HK := Aside0.mk hbox; have HD := Aside0.mk hb; clear hbox hb hg1; have z0 : wg.cell? ⟨g1, 0, none⟩ = some (.int .i64 y) := (blk_cell HK.out 0).trans rfl; have z1 : wg.cell? ⟨g1, 1, none⟩ = some (.int .i64 m) := (blk_cell HK.out 1).trans rfl; have z2 : wg.cell? ⟨g1, 2, none⟩ = some (.int .i64 d) := (blk_cell HK.out 2).trans rfl))
  go_quiet ((go_at_call 101; refine Calls.quiet_of ((civil_Length.calls y m n _ HN.out).mono (fun _ _ h => ⟨h.1, h.2.out⟩))))
  go_wp2
  go_ret
  exact ⟨rfl, pw_below_drewN HD.out _⟩
 | false =>
  cases c1 : decide (9999 < y) with
  | true =>
   have e : r = false := by rw [← HR.out]; simp only [c0, c1, Bool.not_true, Bool.not_false, Bool.false_and, Bool.true_and]
   subst e
   go_enter Tryz.func75, Tryz.ntmps75
   go_wp2_with (first | ((with_reducible refine gate_dst (N := 1) rfl ?_); refine box_event ?hg (N := 1) ?hd (cs := #[.int .i64 y, .int .i64 m, .int .i64 d, .int .i64 h, .int .i64 i, .int .i64 s]) (t := 116) ?hr ?_; (case hd => rfl); (case hg => rfl); (case hr => first | (go_simp; done) | (go_simp; rfl)); intro g1 hg1 wg hbox hb; have HK := Aside0.mk hbox; have HD := Aside0.mk hb; clear hbox hb hg1; have z0 : wg.cell? ⟨g1, 0, none⟩ = some (.int .i64 y) := (blk_cell HK.out 0).trans rfl; have z1 : wg.cell? ⟨g1, 1, none⟩ = some (.int .i64 m) := (blk_cell HK.out 1).trans rfl; have z2 : wg.cell? ⟨g1, 2, none⟩ = some (.int .i64 d) := (blk_cell HK.out 2).trans rfl))
   go_quiet ((go_at_call 101; refine Calls.quiet_of ((civil_Length.calls y m n _ HN.out).mono (fun _ _ h => ⟨h.1, h.2.out⟩))))
   go_wp2
   go_ret
   exact ⟨rfl, pw_below_drewN HD.out _⟩
  | false =>
   cases c2 : decide (m < 1) with
   | true =>
    have e : r = false := by rw [← HR.out]; simp only [c0, c1, c2, Bool.not_true, Bool.not_false, Bool.false_and, Bool.true_and]
    subst e
    go_enter Tryz.func75, Tryz.ntmps75
    go_wp2_with (first | ((with_reducible refine gate_dst (N := 1) rfl ?_); refine box_event ?hg (N := 1) ?hd (cs := #[.int .i64 y, .int .i64 m, .int .i64 d, .int .i64 h, .int .i64 i, .int .i64 s]) (t := 116) ?hr ?_; (case hd => rfl); (case hg => rfl); (case hr => first | (go_simp; done) | (go_simp; rfl)); intro g1 hg1 wg hbox hb; have HK := Aside0.mk hbox; have HD := Aside0.mk hb; clear hbox hb hg1; have z0 : wg.cell? ⟨g1, 0, none⟩ = some (.int .i64 y) := (blk_cell HK.out 0).trans rfl; have z1 : wg.cell? ⟨g1, 1, none⟩ = some (.int .i64 m) := (blk_cell HK.out 1).trans rfl; have z2 : wg.cell? ⟨g1, 2, none⟩ = some (.int .i64 d) := (blk_cell HK.out 2).trans rfl))
    go_quiet ((go_at_call 101; refine Calls.quiet_of ((civil_Length.calls y m n _ HN.out).mono (fun _ _ h => ⟨h.1, h.2.out⟩))))
    go_wp2
    go_ret
    exact ⟨rfl, pw_below_drewN HD.out _⟩
   | false =>
    cases c3 : decide (12 < m) with
    | true =>
     have e : r = false := by rw [← HR.out]; simp only [c0, c1, c2, c3, Bool.not_true, Bool.not_false, Bool.false_and, Bool.true_and]
     subst e
     go_enter Tryz.func75, Tryz.ntmps75
     go_wp2_with (first | ((with_reducible refine gate_dst (N := 1) rfl ?_); refine box_event ?hg (N := 1) ?hd (cs := #[.int .i64 y, .int .i64 m, .int .i64 d, .int .i64 h, .int .i64 i, .int .i64 s]) (t := 116) ?hr ?_; (case hd => rfl); (case hg => rfl); (case hr => first | (go_simp; done) | (go_simp; rfl)); intro g1 hg1 wg hbox hb; have HK := Aside0.mk hbox; have HD := Aside0.mk hb; clear hbox hb hg1; have z0 : wg.cell? ⟨g1, 0, none⟩ = some (.int .i64 y) := (blk_cell HK.out 0).trans rfl; have z1 : wg.cell? ⟨g1, 1, none⟩ = some (.int .i64 m) := (blk_cell HK.out 1).trans rfl; have z2 : wg.cell? ⟨g1, 2, none⟩ = some (.int .i64 d) := (blk_cell HK.out 2).trans rfl))
     go_quiet ((go_at_call 101; refine Calls.quiet_of ((civil_Length.calls y m n _ HN.out).mono (fun _ _ h => ⟨h.1, h.2.out⟩))))
     go_wp2
     go_ret
     exact ⟨rfl, pw_below_drewN HD.out _⟩
    | false =>
     cases c4 : decide (d < 1) with
     | true =>
      have e : r = false := by rw [← HR.out]; simp only [c0, c1, c2, c3, c4, Bool.not_true, Bool.not_false, Bool.false_and, Bool.true_and]
      subst e
      go_enter Tryz.func75, Tryz.ntmps75
      go_wp2_with (first | ((with_reducible refine gate_dst (N := 1) rfl ?_); refine box_event ?hg (N := 1) ?hd (cs := #[.int .i64 y, .int .i64 m, .int .i64 d, .int .i64 h, .int .i64 i, .int .i64 s]) (t := 116) ?hr ?_; (case hd => rfl); (case hg => rfl); (case hr => first | (go_simp; done) | (go_simp; rfl)); intro g1 hg1 wg hbox hb; have HK := Aside0.mk hbox; have HD := Aside0.mk hb; clear hbox hb hg1; have z0 : wg.cell? ⟨g1, 0, none⟩ = some (.int .i64 y) := (blk_cell HK.out 0).trans rfl; have z1 : wg.cell? ⟨g1, 1, none⟩ = some (.int .i64 m) := (blk_cell HK.out 1).trans rfl; have z2 : wg.cell? ⟨g1, 2, none⟩ = some (.int .i64 d) := (blk_cell HK.out 2).trans rfl))
      go_quiet ((go_at_call 101; refine Calls.quiet_of ((civil_Length.calls y m n _ HN.out).mono (fun _ _ h => ⟨h.1, h.2.out⟩))))
      go_wp2
      go_ret
      exact ⟨rfl, pw_below_drewN HD.out _⟩
     | false =>
      cases c5 : decide (n < d) with
      | true =>
       have e : r = false := by rw [← HR.out]; simp only [c0, c1, c2, c3, c4, c5, Bool.not_true, Bool.not_false, Bool.false_and, Bool.true_and]
       subst e
       go_enter Tryz.func75, Tryz.ntmps75
       go_wp2_with (first | ((with_reducible refine gate_dst (N := 1) rfl ?_); refine box_event ?hg (N := 1) ?hd (cs := #[.int .i64 y, .int .i64 m, .int .i64 d, .int .i64 h, .int .i64 i, .int .i64 s]) (t := 116) ?hr ?_; (case hd => rfl); (case hg => rfl); (case hr => first | (go_simp; done) | (go_simp; rfl)); intro g1 hg1 wg hbox hb; have HK := Aside0.mk hbox; have HD := Aside0.mk hb; clear hbox hb hg1; have z0 : wg.cell? ⟨g1, 0, none⟩ = some (.int .i64 y) := (blk_cell HK.out 0).trans rfl; have z1 : wg.cell? ⟨g1, 1, none⟩ = some (.int .i64 m) := (blk_cell HK.out 1).trans rfl; have z2 : wg.cell? ⟨g1, 2, none⟩ = some (.int .i64 d) := (blk_cell HK.out 2).trans rfl))
       go_quiet ((go_at_call 101; refine Calls.quiet_of ((civil_Length.calls y m n _ HN.out).mono (fun _ _ h => ⟨h.1, h.2.out⟩))))
       go_wp2
       go_ret
       exact ⟨rfl, pw_below_drewN HD.out _⟩
      | false =>
       obtain ⟨i1, q1⟩ : ∃ z : Int, (if 23 < h then 23 else h) = z := ⟨_, rfl⟩
       obtain ⟨i2, q2⟩ : ∃ z : Int, (if 0 < i1 then i1 else 0) = z := ⟨_, rfl⟩
       obtain ⟨i3, q3⟩ : ∃ z : Int, (if 59 < i then 59 else i) = z := ⟨_, rfl⟩
       obtain ⟨i4, q4⟩ : ∃ z : Int, (if 0 < i3 then i3 else 0) = z := ⟨_, rfl⟩
       obtain ⟨i5, q5⟩ : ∃ z : Int, (if 59 < s then 59 else s) = z := ⟨_, rfl⟩
       obtain ⟨i6, q6⟩ : ∃ z : Int, (if 0 < i5 then i5 else 0) = z := ⟨_, rfl⟩
       have e : r = (i2 == h && (i4 == i && i6 == s)) := by
        rw [← HR.out]
        simp only [c0, c1, c2, c3, c4, c5, Bool.not_false, Bool.true_and]
        rw [show mx 0 (mn h 23) = i2 by rw [← q2, ← q1]; rfl, show mx 0 (mn i 59) = i4 by rw [← q4, ← q3]; rfl, show mx 0 (mn s 59) = i6 by rw [← q6, ← q5]; rfl]
        rw [Bool.eq_iff_iff]
        simp only [Bool.and_eq_true, beq_iff_eq, decide_eq_true_eq]
       subst e
       clear HR
       
       go_enter Tryz.func75, Tryz.ntmps75
       go_wp2_with (first | ((with_reducible refine gate_dst (N := 1) rfl ?_); refine box_event ?hg (N := 1) ?hd (cs := #[.int .i64 y, .int .i64 m, .int .i64 d, .int .i64 h, .int .i64 i, .int .i64 s]) (t := 116) ?hr ?_; (case hd => rfl); (case hg => rfl); (case hr => first | (go_simp; done) | (go_simp; rfl)); intro g1 hg1 wg hbox hb; have HK := Aside0.mk hbox; have HD := Aside0.mk hb; clear hbox hb hg1; have z0 : wg.cell? ⟨g1, 0, none⟩ = some (.int .i64 y) := (blk_cell HK.out 0).trans rfl; have z1 : wg.cell? ⟨g1, 1, none⟩ = some (.int .i64 m) := (blk_cell HK.out 1).trans rfl; have z2 : wg.cell? ⟨g1, 2, none⟩ = some (.int .i64 d) := (blk_cell HK.out 2).trans rfl))
       go_quiet ((go_at_call 101; refine Calls.quiet_of ((civil_Length.calls y m n _ HN.out).mono (fun _ _ h => ⟨h.1, h.2.out⟩))))
       generalize hW : World.drewN _ _ = W
       replace HK := Aside0.mk (show W.heap[g1]? = some (.cells #[.int .i64 y, .int .i64 m, .int .i64 d, .int .i64 h, .int .i64 i, .int .i64 s] 116 (0, 0)) by rw [← hW]; exact HK.out)
       replace HD := Aside0.mk (show Below w.heap.size w W by rw [← hW]; exact pw_below_drewN HD.out _)
       clear hW z0 z1 z2
       have z3 : W.cell? ⟨g1, 3, none⟩ = some (.int .i64 h) := (blk_cell HK.out 3).trans rfl
       have z4 : W.cell? ⟨g1, 4, none⟩ = some (.int .i64 i) := (blk_cell HK.out 4).trans rfl
       have z5 : W.cell? ⟨g1, 5, none⟩ = some (.int .i64 s) := (blk_cell HK.out 5).trans rfl
       go_wp2_with (first | ((with_reducible refine gate_dst (N := 3) rfl ?_); refine box_event ?hg (N := 3) ?hd (cs := #[.int .i64 0, .int .i64 0, .int .i64 0]) (t := 136) ?hr ?_; (case hd => rfl); (case hg => rfl); (case hr => first | (go_simp; done) | (go_simp; rfl)); intro g3 hg3 w3 hbox hb; have K3 := Aside0.mk hbox; have L3 := Aside0.mk (blk_below HK.out hb); have D3 := Aside0.mk (below_step HD.out hb); have hn13 : g1 ≠ g3 := (by have := blk_lt HK.out; omega); have hn31 := Ne.symm hn13; have N3 := Aside0.mk (show w.heap.size ≤ g3 by rw [hg3]; exact below_size HD.out); clear hbox hb hg3; have y0 : w3.cell? ⟨g3, 0, none⟩ = some (.int .i64 0) := (blk_cell K3.out 0).trans rfl; have y1 : w3.cell? ⟨g3, 1, none⟩ = some (.int .i64 0) := (blk_cell K3.out 1).trans rfl; have y2 : w3.cell? ⟨g3, 2, none⟩ = some (.int .i64 0) := (blk_cell K3.out 2).trans rfl; have f0 := blk_frozen K3.out 0; have f1 := blk_frozen K3.out 1; have f2 := blk_frozen K3.out 2; have x3 : w3.cell? ⟨g1, 3, none⟩ = some (.int .i64 h) := (blk_cell L3.out 3).trans rfl; have x4 : w3.cell? ⟨g1, 4, none⟩ = some (.int .i64 i) := (blk_cell L3.out 4).trans rfl; have x5 : w3.cell? ⟨g1, 5, none⟩ = some (.int .i64 s) := (blk_cell L3.out 5).trans rfl))
       go_ret
       exact ⟨rfl, below_set (below_set (below_set D3.out N3.out) N3.out) N3.out⟩
end Go.Proofs.YtjijikgandkphaaGreatDoor.G
