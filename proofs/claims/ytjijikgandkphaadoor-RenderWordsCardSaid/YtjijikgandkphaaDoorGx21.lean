import Derived.Test.YtjijikgandkphaaDoorGx0
import Derived.Test.YtjijikgandkphaaDoorGx18
import Derived.Test.YtjijikgandkphaaDoorGx19
import Derived.Test.YtjijikgandkphaaDoorGx20
namespace Go.Proofs.YtjijikgandkphaaDoor.G
open Go.RowKit Go.Proofs.YtjijikgandkphaaDoorW.PrintWords Go.Proofs.YtjijikgandkphaaDoorW.PrintLast Go.Proofs.YtjijikgandkphaaDoorW.PrintMore Go.Proofs.YtjijikgandkphaaDoorW.VWords Go.Proofs.YtjijikgandkphaaDoorW.Tab
attribute [local go_sem] max2_int min2_int max_two min_two max_three min_three max_four min_four
set_option linter.unusedVariables false
set_option linter.unusedSimpArgs false
theorem F_bnd {α : Type} {d : Kd α} {W : World} {ok : Nat → Prop} {A : Option Addr} {n : Nat} {xs : List α} (h : Kd.F d W ok A n xs) : Kd.F d W (fun k => ok k ∧ k < W.heap.size) A n xs := Foot.bound h
theorem atF_mono : ∀ k (l : List S35) i, LeO (atF k l i) (atF (k + 1) l i)
  | 0, _, _ => fun r h => by cases h
  | k + 1, l, i => by
    rw [atF, atF]
    exact LeO.ite (LeO.ite (LeO.refl _) (LeO.bind (atF_mono k l _) (fun p => LeO.refl _))) (LeO.refl _)
theorem resF_mono (k : Nat) (l : List S35) (id : ByteArray) : ∀ xs i, LeO (resF k l id xs i) (resF (k + 1) l id xs i)
  | [], _ => LeO.refl _
  | x :: xs, i => LeO.ite (atF_mono k l i) (resF_mono k l id xs (i + 1))
def interlocutorlaw6_Locale.f (k : Nat) (a0_0 a0_1 a0_2 a0_3 : Int) (l0_4 : List S98) (a0_5 : Bool) (a1 : Int) : Option (ByteArray × Int × Int × (List S24) × (List S96) × (List S31)) :=
  (interlocutorlaw5_Shape_Make.f a0_0 a0_1 a0_2 a0_3 l0_4 a0_5).bind fun l => (interlocutorlaw6_within.f a1 (l.length : Int)).bind fun t => if 0 ≤ t ∧ t < (l.length : Int) then (resF k l (rd_T35 l t).f0 l 0).bind fun r => some (r.f0, r.f1, r.f2, r.f3, r.f4, r.f5) else none
theorem interlocutorlaw6_Locale.mono : ∀ a0 a1 a2 a3 a4 a5 a6 k, LeO (interlocutorlaw6_Locale.f k a0 a1 a2 a3 a4 a5 a6) (interlocutorlaw6_Locale.f (k + 1) a0 a1 a2 a3 a4 a5 a6) := by
  intro a0 a1 a2 a3 a4 a5 a6 k
  exact LeO.bind (LeO.refl _) (fun l => LeO.bind (LeO.refl _) (fun t => LeO.ite (LeO.bind (resF_mono _ _ _ _ _) (fun r => LeO.refl _)) (LeO.refl _)))
set_option maxHeartbeats 8000000 in
set_option maxRecDepth 100000 in
theorem locale_walk (k : Nat) (a0_0 a0_1 a0_2 a0_3 : Int) (A0_4 : Option Addr) (c0_4 : Nat) (l0_4 : List S98) (a0_5 : Bool) (a1 : Int) (l : List S35) (t : Int) (x r : S35) (w : World) (hC : Kd.C k98 w A0_4 l0_4.length l0_4) (hc : l0_4.length ≤ c0_4)
    (hm : interlocutorlaw5_Shape_Make.f a0_0 a0_1 a0_2 a0_3 l0_4 a0_5 = some l) (ht : interlocutorlaw6_within.f a1 (l.length : Int) = some t) (q0 : 0 ≤ t) (q1 : t < (l.length : Int)) (hx : x = rd_T35 l t) (hr : resF k l x.f0 l 0 = some r) :
    Calls Tryd.prog 11 #[.agg #[.int .i64 a0_0, .int .i64 a0_1, .int .i64 a0_2, .int .i64 a0_3, .slice A0_4 l0_4.length c0_4, .bool a0_5], .int .i64 a1] w fun e w' => ∃ P3 d3 P4 d4 P5 d5, e = .returned (.agg #[.string r.f0, .int .i64 r.f1, .int .i64 r.f2, .slice P3 r.f3.length d3, .slice P4 r.f4.length d4, .slice P5 r.f5.length d5]) ∧ r.f3.length ≤ d3 ∧ Kd.F k24 w' (fun b => w.heap.size ≤ b) P3 r.f3.length r.f3 ∧ r.f4.length ≤ d4 ∧ Kd.F k96 w' (fun b => w.heap.size ≤ b) P4 r.f4.length r.f4 ∧ r.f5.length ≤ d5 ∧ Kd.F k31 w' (fun b => w.heap.size ≤ b) P5 r.f5.length r.f5 ∧ Below w.heap.size w w' := by
  have hu24 := Tryd.underlying51
  have hu32 := Tryd.underlying35
  have hu62 := Tryd.underlying61
  have HC := Aside0.mk hC
  have HCC := Aside0.mk hc
  have HM := Aside0.mk hm
  have HT := Aside0.mk ht
  have HX := Aside0.mk hx
  have HR := Aside0.mk hr
  clear hC hc hm ht hx hr
  go_enter Tryd.func11, Tryd.ntmps11
  go_wp2_with (first
    | ((with_reducible refine gate_dst (N := 2) rfl ?_); refine box_event ?hg (N := 2) ?hd (cs := #[.int .i64 a0_0, .int .i64 a0_1, .int .i64 a0_2, .int .i64 a0_3, .slice A0_4 l0_4.length c0_4, .bool a0_5]) (t := 51) ?hr ?_; (case hd => rfl); (case hg => rfl); (case hr => first | (go_simp; done) | (go_simp; rfl)); intro g2 hg2 w2 hbox hb; have B2 := Aside0.mk hbox; have HD := Aside0.mk hb; clear hbox hb hg2)
    | ((with_reducible refine gate_dst (N := 4) rfl ?_); refine box_event ?hg (N := 4) ?hd (cs := #[.string (⟨#[]⟩ : ByteArray), .int .i64 0, .int .i64 0, .slice none 0 0, .slice none 0 0, .slice none 0 0]) (t := 35) ?hr ?_; (case hd => rfl); (case hg => rfl); (case hr => first | (go_simp; done) | (go_simp; rfl)); intro g4 hg4 w4 hbox hb; have NQ4 := Aside0.mk (show w.heap.size ≤ g4 by rw [hg4]; exact below_size HD.out); have B4 := Aside0.mk hbox; have B2' := Aside0.mk (blk_below B2.out hb); have HD2 := Aside0.mk (below_step HD.out hb); clear hbox hb hg4 B2 HD; have HD := HD2; clear HD2; have s0 : w4.cell? ⟨g2, 0, none⟩ = some (.int .i64 a0_0) := (blk_cell B2'.out 0).trans rfl; have s1 : w4.cell? ⟨g2, 1, none⟩ = some (.int .i64 a0_1) := (blk_cell B2'.out 1).trans rfl; have s2 : w4.cell? ⟨g2, 2, none⟩ = some (.int .i64 a0_2) := (blk_cell B2'.out 2).trans rfl; have s3 : w4.cell? ⟨g2, 3, none⟩ = some (.int .i64 a0_3) := (blk_cell B2'.out 3).trans rfl; have s4 : w4.cell? ⟨g2, 4, none⟩ = some (.slice A0_4 l0_4.length c0_4) := (blk_cell B2'.out 4).trans rfl; have s5 : w4.cell? ⟨g2, 5, none⟩ = some (.bool a0_5) := (blk_cell B2'.out 5).trans rfl)
    | (go_at_call 16; (with_reducible refine (interlocutorlaw5_Shape_Make.calls a0_0 a0_1 a0_2 a0_3 A0_4 c0_4 l0_4 a0_5 l _ (Kd.C_below HC.out HD.out) HCC.out HM.out).mono ?_); rintro e wm ⟨v, rfl, ho, hb⟩; obtain ⟨A, c, e⟩ := Kd.N_slice ho; subst e; have HF := Aside0.mk (Kd.F_mono (ok' := fun b => w.heap.size ≤ b ∧ b ≠ g4) (Kd.N_F ho) (fun b hk => ⟨Nat.le_trans (below_size HD.out) hk, fun e => by have := blk_lt B4.out; omega⟩)); have HLC := Aside0.mk (Kd.N_reads' ho).2.1; replace B4 := Aside0.mk (blk_below B4.out hb); replace HD := Aside0.mk (below_step HD.out hb); clear ho hb s0 s1 s2 s3 s4 s5 B2')
    | (go_at_call 18; (with_reducible refine (interlocutorlaw6_within.calls a1 (l.length : Int) t _ HT.out).mono ?_); rintro e wt ⟨rfl, hd⟩; replace HF := Aside0.mk (Kd.F_below HF.out (show Below wm.heap.size wm wt from hd.below)); replace B4 := Aside0.mk (blk_below B4.out hd.below); replace HD := Aside0.mk (below_step HD.out hd.below); obtain ⟨ad, A3, c3, A4, c4, A5, c5, e, hx0, hx1, hx2, hx3, hx4, hx5, l3, f3, l4, f4, l5, f5⟩ := at_F HF.out t q0 q1 x HX.out; subst e; clear hd hx1 hx2 hx3 hx4 hx5 l3 f3 l4 f4 l5 f5)
    | (go_at_call 17; (with_reducible refine (resolve_walk k l x.f0 r (fun b => w.heap.size ≤ b ∧ b ≠ g4) wt.heap.size (some ad) c wt (Nat.le_refl _) (F_bnd HF.out) HLC.out HR.out).mono ?_); rintro e wr ⟨P3, d3, P4, d4, P5, d5, rfl, m3, y3, m4, y4, m5, y5, hb⟩; have SZ := Aside0.mk (below_size HD.out); have LT := Aside0.mk (blk_lt B4.out); have oo : ∀ b, ((((w.heap.size ≤ b ∧ b ≠ g4) ∧ b < wt.heap.size) ∨ wt.heap.size ≤ b) ∧ b < wr.heap.size) → (w.heap.size ≤ b ∧ b ≠ g4) ∧ b < wr.heap.size := (fun b hb => ⟨hb.1.elim (fun h => h.1) (fun h => ⟨Nat.le_trans SZ.out h, fun e => by have := LT.out; omega⟩), hb.2⟩); replace B4 := Aside0.mk (blk_below B4.out hb); replace HD := Aside0.mk (below_step HD.out hb); have FR := Aside0.mk (And.intro m3 (And.intro (Kd.F_mono (F_bnd y3) oo) (And.intro m4 (And.intro (Kd.F_mono (F_bnd y4) oo) (And.intro m5 (Kd.F_mono (F_bnd y5) oo)))))); clear m3 y3 m4 y4 m5 y5 hb oo HF hx0)
    | ((with_reducible refine gate_dst (N := 6) rfl ?_); refine box_event ?hg (N := 6) ?hd (cs := #[.string (⟨#[]⟩ : ByteArray), .int .i64 0, .int .i64 0, .slice none 0 0, .slice none 0 0, .slice none 0 0]) (t := 35) ?hr ?_; (case hd => rfl); (case hg => rfl); (case hr => first | (go_simp; done) | (go_simp; rfl)); intro g6 hg6 w6 hbox hb; have E6 := Aside0.mk hg6; have B6 := Aside0.mk hbox; have H6 := Aside0.mk hb; have B46 := Aside0.mk (blk_below B4.out hb); have hn64 : g6 ≠ g4 := (by have := blk_lt B4.out; omega); have hn46 := Ne.symm hn64; clear hbox hb hg6; have p0 : w6.cell? ⟨g6, 0, none⟩ = some (.string (⟨#[]⟩ : ByteArray)) := (blk_cell B6.out 0).trans rfl; have pf0 := blk_frozen B6.out 0; have q0_ : w6.cell? ⟨g4, 0, none⟩ = some (.string (⟨#[]⟩ : ByteArray)) := (blk_cell B46.out 0).trans rfl; have qf0 := blk_frozen B46.out 0; have p1 : w6.cell? ⟨g6, 1, none⟩ = some (.int .i64 0) := (blk_cell B6.out 1).trans rfl; have pf1 := blk_frozen B6.out 1; have q1_ : w6.cell? ⟨g4, 1, none⟩ = some (.int .i64 0) := (blk_cell B46.out 1).trans rfl; have qf1 := blk_frozen B46.out 1; have p2 : w6.cell? ⟨g6, 2, none⟩ = some (.int .i64 0) := (blk_cell B6.out 2).trans rfl; have pf2 := blk_frozen B6.out 2; have q2_ : w6.cell? ⟨g4, 2, none⟩ = some (.int .i64 0) := (blk_cell B46.out 2).trans rfl; have qf2 := blk_frozen B46.out 2; have p3 : w6.cell? ⟨g6, 3, none⟩ = some (.slice none 0 0) := (blk_cell B6.out 3).trans rfl; have pf3 := blk_frozen B6.out 3; have q3_ : w6.cell? ⟨g4, 3, none⟩ = some (.slice none 0 0) := (blk_cell B46.out 3).trans rfl; have qf3 := blk_frozen B46.out 3; have p4 : w6.cell? ⟨g6, 4, none⟩ = some (.slice none 0 0) := (blk_cell B6.out 4).trans rfl; have pf4 := blk_frozen B6.out 4; have q4_ : w6.cell? ⟨g4, 4, none⟩ = some (.slice none 0 0) := (blk_cell B46.out 4).trans rfl; have qf4 := blk_frozen B46.out 4; have p5 : w6.cell? ⟨g6, 5, none⟩ = some (.slice none 0 0) := (blk_cell B6.out 5).trans rfl; have pf5 := blk_frozen B6.out 5; have q5_ : w6.cell? ⟨g4, 5, none⟩ = some (.slice none 0 0) := (blk_cell B46.out 5).trans rfl; have qf5 := blk_frozen B46.out 5))
  obtain ⟨m3, y3, m4, y4, m5, y5⟩ := FR.out
  have k4 := set6_blk ((set6_far w6 g6 g4 (.string r.f0) (.int .i64 r.f1) (.int .i64 r.f2) (.slice P3 r.f3.length d3) (.slice P4 r.f4.length d4) (.slice P5 r.f5.length d5) hn46).trans B46.out) (.string r.f0) (.int .i64 r.f1) (.int .i64 r.f2) (.slice P3 r.f3.length d3) (.slice P4 r.f4.length d4) (.slice P5 r.f5.length d5)
  have s : ∀ b, ((w.heap.size ≤ b ∧ b ≠ g4) ∧ b < wr.heap.size) → b < wr.heap.size → (set6 (set6 w6 g6 (.string r.f0) (.int .i64 r.f1) (.int .i64 r.f2) (.slice P3 r.f3.length d3) (.slice P4 r.f4.length d4) (.slice P5 r.f5.length d5)) g4 (.string r.f0) (.int .i64 r.f1) (.int .i64 r.f2) (.slice P3 r.f3.length d3) (.slice P4 r.f4.length d4) (.slice P5 r.f5.length d5)).heap[b]? = wr.heap[b]? := fun b hb hlt => by
    have := E6.out
    rw [set6_far _ _ _ _ _ _ _ _ _ hb.1.2, set6_far _ _ _ _ _ _ _ _ _ (by omega)]
    exact H6.out.block b hlt
  have n6 : w.heap.size ≤ g6 := by rw [E6.out]; exact below_size HD.out
  refine bodyPost_ret (results_cell_row rfl _ _ g4 35 #[.string r.f0, .int .i64 r.f1, .int .i64 r.f2, .slice P3 r.f3.length d3, .slice P4 r.f4.length d4, .slice P5 r.f5.length d5] (0, 0) _ rfl k4 Tryd.underlying35 rfl (by kernel_rfl)) rfl ?_
  have o : ∀ b, ((w.heap.size ≤ b ∧ b ≠ g4) ∧ b < wr.heap.size) → w.heap.size ≤ b := fun b hb => hb.1.1
  exact ⟨P3, d3, P4, d4, P5, d5, by first | rfl | simp, m3, Kd.F_mono (Kd.F_step y3 s) o, m4, Kd.F_mono (Kd.F_step y4 s) o, m5, Kd.F_mono (Kd.F_step y5 s) o, set6_below _ _ _ _ _ _ (set6_below _ _ _ _ _ _ (below_step HD.out H6.out) n6) NQ4.out⟩
theorem interlocutorlaw6_Locale.calls (k : Nat) (a0_0 : Int) (a0_1 : Int) (a0_2 : Int) (a0_3 : Int) (A0_4 : Option Addr) (c0_4 : Nat) (l0_4 : List (S98)) (a0_5 : Bool) (a1 : Int) (r1 : ByteArray) (r2 : Int) (r3 : Int) (r4 : List (S24)) (r5 : List (S96)) (r6 : List (S31)) (w : World) (hr0_4 : Kd.C k98 w A0_4 l0_4.length l0_4) (hc0_4 : l0_4.length ≤ c0_4) (h : interlocutorlaw6_Locale.f k a0_0 a0_1 a0_2 a0_3 l0_4 a0_5 a1 = some (r1, r2, r3, r4, r5, r6)) :
    Calls Tryd.prog 11 #[.agg #[.int .i64 a0_0, .int .i64 a0_1, .int .i64 a0_2, .int .i64 a0_3, .slice A0_4 l0_4.length c0_4, .bool a0_5], .int .i64 a1] w fun e w' => ∃ v3_ v4_ v5_ : Value, e = .returned (.agg #[.string r1, .int .i64 r2, .int .i64 r3, v3_, v4_, v5_]) ∧ Kd.V k24 24 w' w.heap.size (fun k_ => (w.heap.size ≤ k_)) v3_ r4 ∧ Kd.V k96 96 w' w.heap.size (fun k_ => (w.heap.size ≤ k_)) v4_ r5 ∧ Kd.V k31 31 w' w.heap.size (fun k_ => (w.heap.size ≤ k_)) v5_ r6 ∧ Below w.heap.size w w' := by
  obtain ⟨l, hm, h⟩ := Option.bind_eq_some_iff.mp h
  obtain ⟨t, ht, h⟩ := Option.bind_eq_some_iff.mp h
  by_cases hq : 0 ≤ t ∧ t < (l.length : Int)
  · rw [if_pos hq] at h
    obtain ⟨r, hr, h⟩ := Option.bind_eq_some_iff.mp h
    simp only [Option.some.injEq, Prod.mk.injEq] at h
    obtain ⟨rfl, rfl, rfl, rfl, rfl, rfl⟩ := h
    refine (locale_walk k a0_0 a0_1 a0_2 a0_3 A0_4 c0_4 l0_4 a0_5 a1 l t _ r w hr0_4 hc0_4 hm ht hq.1 hq.2 rfl hr).mono ?_
    rintro e w' ⟨P3, d3, P4, d4, P5, d5, rfl, m3, y3, m4, y4, m5, y5, hb⟩
    exact ⟨_, _, _, rfl, ⟨P3, d3, rfl, m3, y3⟩, ⟨P4, d4, rfl, m4, y4⟩, ⟨P5, d5, rfl, m5, y5⟩, hb⟩
  · rw [if_neg hq] at h
    cases h
def slices_Clone_int_int.f (l0 : List Int) : Option (List Int) := if l0.length < 17592186044416 then some l0 else none
set_option maxHeartbeats 1000000 in
theorem slices_Clone_int_int.calls (A0 : Option Addr) (c0 : Nat) (l0 : List Int) (r : List Int) (w : World) (hr0 : Kd.C (Kd.int .i64) w A0 l0.length l0) (hc0 : l0.length ≤ c0) (h : slices_Clone_int_int.f l0 = some r) :
    Calls Tryd.prog 19 #[.slice A0 l0.length c0] w fun e w' => ∃ v0_ : Value, e = .returned (v0_) ∧ Kd.R (Kd.int .i64) 3 w' w.heap.size (fun _ => True) v0_ r ∧ Below w.heap.size w w' := by
  unfold slices_Clone_int_int.f at h
  by_cases hlim : ¬ l0.length < 17592186044416
  · rw [if_neg hlim] at h
    exact absurd h (by simp)
  replace hlim := Decidable.not_not.1 hlim
  rw [if_pos hlim] at h
  obtain rfl := Option.some.inj h
  clear h
  have HB := Aside0.mk (Below.refl w.heap.size w)
  have LM := Aside0.mk hlim
  have HR := Aside0.mk hr0
  have HC := Aside0.mk hc0
  clear hlim hr0 hc0
  have hq := fun W => Lib.run_eql_slice_nil (P := Tryd.prog) W 36 3 A0 l0.length c0 0 0 Tryd.underlying36
  cases A0 with
  | none =>
    obtain rfl : l0 = [] := by
      rcases Nat.eq_zero_or_pos l0.length with h0 | h0
      · exact List.eq_nil_of_length_eq_zero h0
      · obtain ⟨ad, he, _⟩ := HR.out.2.2 h0
        cases he
    simp only [List.length_nil] at hq ⊢
    go_enter Tryd.func19, Tryd.ntmps19
    go_wp2
    go_ret
    exact ⟨_, rfl, Kd.R_nil _ _ _ _ _, HB.out⟩
  | some ad =>
    go_enter Tryd.func19, Tryd.ntmps19
    go_wp2_with (first
      | ((with_reducible refine gate_dst (N := 5) rfl ?_); refine Kd.R_lit (Kd.int .i64) (w0 := w) w.heap.size 3 ?hg (N := 5) ?hd (xs := ([] : List Int)) (inner := []) (ok := fun _ => True) (okp := fun _ => True) ?hr ?hp (fun _ hk => hk) trivial (Below.refl _ _) (Nat.le_refl _) (by simp) ?_; (case hd => rfl); (case hg => rfl); (case hr => first | (go_simp; done) | (go_simp; rfl)); (case hp => exact Reps.none _ _); intro v5 w5 ho5 hb5 hg5 hn5; have HO5 := Aside0.mk ho5; clear HB; have HB := Aside0.mk hb5; clear ho5 hb5 hg5 hn5)
      | ((with_reducible refine gate_builtin (b := .append) (xs := #[.tmp 5, .tmp 6]) rfl ?_); at_builtin; refine Kd.R_append_row (Value.int .i64) (0 : Int) (h1 := fun _ => rfl) (w0 := w) w.heap.size rfl (.tmp 5) (.tmp 6) 36 3 (.int .i64 0) 8 rfl Tryd.underlying36 info3 rfl (by decide) v5 ([] : List Int) l0 (some ad) l0.length c0 (fun _ => True) rfl rfl (fun _ _ => trivial) HO5.out ?aR HB.out (below_size HB.out) ?aL ?_; (case aR => exact Kd.C_below HR.out HB.out); (case aL => have := LM.out; simp only [List.length_nil]; omega); intro v7 w7 ho hb hg hat; have HO7 := Aside0.mk ho; clear HB; have HB := Aside0.mk hb; clear ho hb hg hat))
    go_ret
    exact ⟨_, rfl, by rw [List.nil_append] at HO7; exact HO7.out, HB.out⟩
def render_Styles.l0 : Nat → Int → List Int → List (S31) → Int → Int → Option (List Int)
  | 0, _, _, _, _, _ => none
  | k + 1, x1, x5, x9, x10, x11 => if x11 < x10 then (if 0 ≤ x11 then (if x11 < (x9.length : Int) then (if ((rd_T31 x9 x11).f0) = x1 then (if x5.length < 17592186044416 then (render_Styles.l0 k x1 (x5 ++ [x11]) x9 x10 (wrap64 (x11 + 1))) else (none)) else (render_Styles.l0 k x1 x5 x9 x10 (wrap64 (x11 + 1)))) else (none)) else (none)) else ((slices_Clone_int_int.f x5).bind fun t206 => (some t206))
def render_Styles.f (k : Nat) (a0_0 : ByteArray) (a0_1 : Int) (a0_2 : Int) (l0_3 : List (S24)) (l0_4 : List (S96)) (l0_5 : List (S31)) (a1 : Int) : Option (List Int) := render_Styles.l0 k a1 ([] : List Int) l0_5 (l0_5.length : Int) 0
theorem render_Styles.mono_l : ∀ k, (∀ y0 y1 y2 y3 y4, LeO (render_Styles.l0 k y0 y1 y2 y3 y4) (render_Styles.l0 (k + 1) y0 y1 y2 y3 y4))
  | 0 => fun _ _ _ _ _ r h => by simp [render_Styles.l0] at h
  | k + 1 => by
    have ih0 := render_Styles.mono_l k
    · intro y0 y1 y2 y3 y4
      unfold render_Styles.l0
      repeat' first
      | (with_reducible exact ih0 _ _ _ _ _)
      | (with_reducible exact LeO.refl _)
      | (with_reducible exact LeO.none _)
      | (with_reducible refine LeO.ite ?_ ?_)
      | (with_reducible refine LeO.bind ?_ (fun _ => ?_))
      | exact ih0 _ _ _ _ _
      | exact LeO.none _
      | refine LeO.ite ?_ ?_
      | refine LeO.bind ?_ (fun _ => ?_)
theorem render_Styles.mono : ∀ a0 a1 a2 a3 a4 a5 a6 k, LeO (render_Styles.f k a0 a1 a2 a3 a4 a5 a6) (render_Styles.f (k + 1) a0 a1 a2 a3 a4 a5 a6) := by
  intro a0 a1 a2 a3 a4 a5 a6 k
  have ih0 := render_Styles.mono_l k
  unfold render_Styles.f
  repeat' first
      | (with_reducible exact ih0 _ _ _ _ _)
      | (with_reducible exact LeO.refl _)
      | (with_reducible exact LeO.none _)
      | (with_reducible refine LeO.ite ?_ ?_)
      | (with_reducible refine LeO.bind ?_ (fun _ => ?_))
      | exact ih0 _ _ _ _ _
      | exact LeO.none _
      | refine LeO.ite ?_ ?_
      | refine LeO.bind ?_ (fun _ => ?_)
set_option maxHeartbeats 8000000 in
set_option maxRecDepth 100000 in
theorem render_Styles.calls (k : Nat) (a0_0 : ByteArray) (a0_1 : Int) (a0_2 : Int) (A0_3 : Option Addr) (c0_3 : Nat) (l0_3 : List (S24)) (A0_4 : Option Addr) (c0_4 : Nat) (l0_4 : List (S96)) (A0_5 : Option Addr) (c0_5 : Nat) (l0_5 : List (S31)) (a1 : Int) (r : List Int) (w : World) (hr0_3 : Kd.C k24 w A0_3 l0_3.length l0_3) (hc0_3 : l0_3.length ≤ c0_3) (hr0_4 : Kd.C k96 w A0_4 l0_4.length l0_4) (hc0_4 : l0_4.length ≤ c0_4) (hr0_5 : Kd.C k31 w A0_5 l0_5.length l0_5) (hc0_5 : l0_5.length ≤ c0_5) (h : render_Styles.f k a0_0 a0_1 a0_2 l0_3 l0_4 l0_5 a1 = some r) :
    Calls Tryd.prog 12 #[.agg #[.string a0_0, .int .i64 a0_1, .int .i64 a0_2, .slice A0_3 l0_3.length c0_3, .slice A0_4 l0_4.length c0_4, .slice A0_5 l0_5.length c0_5], .int .i64 a1] w fun e w' => ∃ v0_ : Value, e = .returned (v0_) ∧ Kd.R (Kd.int .i64) 3 w' w.heap.size (fun _ => True) v0_ r ∧ Below w.heap.size w w' := by
  have hu35 := Tryd.underlying35
  have hu31 := Tryd.underlying31
  have HR0_3 := Aside0.mk hr0_3
  have HC0_3 := Aside0.mk hc0_3
  clear hr0_3 hc0_3
  have HR0_4 := Aside0.mk hr0_4
  have HC0_4 := Aside0.mk hc0_4
  clear hr0_4 hc0_4
  have HR0_5 := Aside0.mk hr0_5
  have HC0_5 := Aside0.mk hc0_5
  clear hr0_5 hc0_5
  have HB := Aside0.mk (Below.refl w.heap.size w)
  have H : (render_Styles.l0 k a1 ([] : List Int) l0_5 (l0_5.length : Int) 0) = some r := h
  clear h
  have H' := Aside0.mk H
  clear H
  go_enter Tryd.func12, Tryd.ntmps12
  go_wp2_with (first | ((with_reducible refine gate_dst (N := 2) rfl ?_); refine box_event ?hg (N := 2) ?hd (cs := #[.string a0_0, .int .i64 a0_1, .int .i64 a0_2, .slice A0_3 l0_3.length c0_3, .slice A0_4 l0_4.length c0_4, .slice A0_5 l0_5.length c0_5]) (t := 35) ?hr ?_; (case hd => rfl); (case hg => rfl); (case hr => first | (go_simp; done) | (go_simp; rfl)); intro gb200 hg w3 hbox hb; have n0_ := Aside0.mk (below_step (by exact wU HB.out) hb); have n1_ := Aside0.mk (hbox); have n2_ := Aside0.mk ((by rw [hg]; exact (below_size (by exact wU HB.out)) : w.heap.size ≤ gb200)); have n3_ := Aside0.mk ((by rw [hg]; exact (below_size (by exact wU HB.out)) : w.heap.size ≤ gb200)); clear HB; have HB := n0_; have BK200 := n1_; have GW200 := n2_; have GE200 := n3_; clear n0_ n1_ n2_ n3_; clear hb hbox hg; have hcz4_0 : w3.cell? ⟨gb200, 0, none⟩ = some (.string a0_0) := (blk_cell BK200.out 0).trans rfl; have hcz4_1 : w3.cell? ⟨gb200, 1, none⟩ = some (.int .i64 a0_1) := (blk_cell BK200.out 1).trans rfl; have hcz4_2 : w3.cell? ⟨gb200, 2, none⟩ = some (.int .i64 a0_2) := (blk_cell BK200.out 2).trans rfl; have hcz4_3 : w3.cell? ⟨gb200, 3, none⟩ = some (.slice A0_3 l0_3.length c0_3) := (blk_cell BK200.out 3).trans rfl; have hcz4_4 : w3.cell? ⟨gb200, 4, none⟩ = some (.slice A0_4 l0_4.length c0_4) := (blk_cell BK200.out 4).trans rfl; have hcz4_5 : w3.cell? ⟨gb200, 5, none⟩ = some (.slice A0_5 l0_5.length c0_5) := (blk_cell BK200.out 5).trans rfl; have hfz4_0 := blk_frozen BK200.out 0; have hfz4_1 := blk_frozen BK200.out 1; have hfz4_2 := blk_frozen BK200.out 2; have hfz4_3 := blk_frozen BK200.out 3; have hfz4_4 := blk_frozen BK200.out 4; have hfz4_5 := blk_frozen BK200.out 5))
  go_loopg [5, 11] k (fun kq v5 v11 w' => ∃ (x5_1 : List Int) (x11_1 : Int), v11 = .int .i64 x11_1 ∧ Aside0 (render_Styles.l0 kq a1 x5_1 l0_5 (l0_5.length : Int) x11_1 = some r) ∧ Aside0 (kq ≤ k) ∧ Aside0 (Kd.R (Kd.int .i64) 3 w' w.heap.size (fun _ => True) v5 x5_1) ∧ Aside0 (w'.heap[gb200]? = some (.cells #[.string a0_0, .int .i64 a0_1, .int .i64 a0_2, (.slice A0_3 l0_3.length c0_3), (.slice A0_4 l0_4.length c0_4), (.slice A0_5 l0_5.length c0_5)] 35 (0, 0))) ∧ Aside0 (Below w.heap.size w w'))
  case atStart => exact ⟨(([] : List Int)), (0), (by first | rfl | (simp; done) | (simp [*]; done)), H', ⟨Nat.le_refl _⟩, ⟨by first | exact Kd.R_nil _ _ _ _ _ | exact Kd.N_nil _ _ _ _ _ | exact Kd.V_nil _ _ _ _ _ | exact Kd.Q_nil _ _ _ _ _ | exact Kd.S_nil _ _ _ _ _⟩, ⟨by (with_reducible repeat (first | refine blk_drewN ?_ _ | refine blk_drew ?_ | refine blk_alloc ?_ _)); exact BK200.out⟩, ⟨by exact wS HB.out GE200.out⟩⟩
  case round =>
   clear H'
   try clear c1
   try clear p2
   try clear hcz4_0
   try clear hcz4_1
   try clear hcz4_2
   try clear hcz4_3
   try clear hcz4_4
   try clear hcz4_5
   try clear hfz4_0
   try clear hfz4_1
   try clear hfz4_2
   try clear hfz4_3
   try clear hfz4_4
   try clear hfz4_5
   obtain ⟨x5_1, x11_1, rfl, HA, HK1, HO_5, BK200, HB⟩ := hrel
   cases gk with
   | zero => exact absurd HA.out (by simp [render_Styles.l0])
   | succ k1 =>
    have H := HA.out
    clear HA
    simp only [render_Styles.l0] at H
    by_cases c5 : x11_1 < (l0_5.length : Int)
    rotate_left
    · rw [if_neg c5] at H
      have c5b0 : decide (x11_1 < (l0_5.length : Int)) = false := decide_eq_false c5
      clear c5
      replace H := Option.bind_eq_some_iff.mp H
      obtain ⟨t206, A170, H⟩ := H
      replace H : (some t206) = some r := H
      have A17 := Aside0.mk A170
      clear A170
      obtain rfl := Option.some.inj H
      obtain ⟨Ao18, co18, eo18⟩ := Kd.R_slice HO_5.out
      subst eo18
      go_wp2_with (first | ((with_reducible refine gate_callee (f := 19) rfl ?_); refine goesL_ (some 26) rfl rfl Tryd.func19 (by kernel_rfl) rfl #[.slice Ao18 x5_1.length co18] rfl (by (try simp only [List.map_toArray, List.map_cons, List.map_nil]); first | done | rfl | (simp only [List.length_drop, List.length_take]; rfl)) ?_; (with_reducible refine (slices_Clone_int_int.calls _ _ x5_1 t206 _ ?side1 ?side2 A17.out).mono ?_); (case side1 => repeat (first | exact (Kd.R_reads' HO_5.out).2.2 | (with_reducible refine Kd.C_alloc ?_ _) | (with_reducible refine Kd.C_drewN ?_ _) | (with_reducible refine Kd.C_drew ?_))); (case side2 => exact (Kd.R_reads' HO_5.out).2.1); rintro e w19 ⟨v207, rfl, ho0, hb⟩; refine ⟨_, rfl, ?_⟩; have n0_ := Aside0.mk (Kd.R_elder' (by exact rU HO_5.out) (Kd.R_base ho0) hb); have n1_ := Aside0.mk (Kd.R_lower (Kd.R_new' ho0 (Kd.R_lt (by exact rU HO_5.out))) (below_size (by exact wS HB.out GE200.out))); have n2_ := Aside0.mk (blk_below (g := gb200) (o := .cells #[.string a0_0, .int .i64 a0_1, .int .i64 a0_2, .slice A0_3 l0_3.length c0_3, .slice A0_4 l0_4.length c0_4, .slice A0_5 l0_5.length c0_5] 35 (0, 0)) (by (with_reducible repeat (first | refine blk_drewN ?_ _ | refine blk_drew ?_ | refine blk_alloc ?_ _)); exact BK200.out) hb); have n3_ := Aside0.mk (below_step (by exact wS HB.out GE200.out) hb); clear HO_5; clear BK200; clear HB; have HO_5 := n0_; have HO208 := n1_; have BK200 := n2_; have HB := n3_; clear n0_ n1_ n2_ n3_; (try clear hb); (try clear hb2); (try clear hk); (try clear hi); (try clear ho0)))
      go_ret
      exact ⟨_, by first | rfl | (simp [errW_none, errW_some] <;> rfl) | (simp [*, errW_none, errW_some] <;> rfl), by exact rU (Kd.R_mono HO208.out (fun _ hk => trivial)), by exact wS HB.out GE200.out⟩
    rw [if_pos c5] at H
    have c5b0 : decide (x11_1 < (l0_5.length : Int)) = true := decide_eq_true c5
    clear c5
    by_cases c6 : 0 ≤ x11_1
    rotate_left
    · rw [if_neg c6] at H
      exact absurd H (by simp)
    rw [if_pos c6] at H
    have c6b0 : decide (0 ≤ x11_1) = true := decide_eq_true c6
    clear c6
    by_cases c7 : x11_1 < (l0_5.length : Int)
    rotate_left
    · rw [if_neg c7] at H
      exact absurd H (by simp)
    rw [if_pos c7] at H
    have c7b0 : decide (x11_1 < (l0_5.length : Int)) = true := decide_eq_true c7
    clear c7
    by_cases c8 : ((rd_T31 l0_5 x11_1).f0) = a1
    rotate_left
    · rw [if_neg c8] at H
      have c8b0 : (((rd_T31 l0_5 x11_1).f0) == a1) = false := beq_eq_false_iff_ne.mpr c8
      have c8b1 : (((rd_T31 l0_5 x11_1).f0) != a1) = true := bne_iff_ne.mpr c8
      have H' := Aside0.mk H
      clear H
      have p201 : 0 ≤ (x11_1 : Int) := of_decide_eq_true (by first | (with_reducible assumption) | assumption)
      have q201 : x11_1 < (l0_5.length : Int) := of_decide_eq_true (by first | (with_reducible assumption) | assumption)
      obtain ⟨ad201, A201_1, c201_1, e201, hx201_0, hx201_1, hl201_1, hi201_1⟩ := at_T31 HR0_5.out x11_1 p201 q201
      cases e201
      replace hx201_0 := (HB.out.cell (World.block_lt_of_cell? w _ hx201_0)).trans hx201_0
      replace hx201_1 := (HB.out.cell (World.block_lt_of_cell? w _ hx201_1)).trans hx201_1
      have HR201_1 := Aside0.mk hi201_1
      have HC201_1 := Aside0.mk hl201_1
      clear hi201_1 hl201_1
      replace p201 := eq_true p201
      replace q201 := eq_true q201
      go_wp2_with (first | ((with_reducible refine gate_dst (N := 7) rfl ?_); refine box_event ?hg (N := 7) ?hd (cs := #[.int .i64 0, .slice none 0 0]) (t := 31) ?hr ?_; (case hd => rfl); (case hg => rfl); (case hr => first | (go_simp; done) | (go_simp; rfl)); intro gb202 hg w14 hbox hb; have n0_ := Aside0.mk (Kd.R_below (by exact rU HO_5.out) hb); have n1_ := Aside0.mk (blk_below (g := gb200) (o := .cells #[.string a0_0, .int .i64 a0_1, .int .i64 a0_2, .slice A0_3 l0_3.length c0_3, .slice A0_4 l0_4.length c0_4, .slice (some ad201) l0_5.length c0_5] 35 (0, 0)) (by (with_reducible repeat (first | refine blk_drewN ?_ _ | refine blk_drew ?_ | refine blk_alloc ?_ _)); exact BK200.out) hb); have n2_ := Aside0.mk (below_step (by exact wS HB.out GE200.out) hb); have n3_ := Aside0.mk (hbox); have n4_ := Aside0.mk ((by rw [hg]; exact (below_size (by exact wS HB.out GE200.out)) : w.heap.size ≤ gb202)); have n5_ := Aside0.mk ((by rw [hg]; exact (below_size (by exact wS HB.out GE200.out)) : w.heap.size ≤ gb202)); have n6_ := Aside0.mk ((by rw [hg]; exact Nat.ne_of_lt (blk_lt (g := gb200) (o := .cells #[.string a0_0, .int .i64 a0_1, .int .i64 a0_2, .slice A0_3 l0_3.length c0_3, .slice A0_4 l0_4.length c0_4, .slice (some ad201) l0_5.length c0_5] 35 (0, 0)) (by (with_reducible repeat (first | refine blk_drewN ?_ _ | refine blk_drew ?_ | refine blk_alloc ?_ _)); exact BK200.out)) : gb200 ≠ gb202)); have n7_ := Aside0.mk ((by rw [hg]; exact Nat.ne_of_gt (blk_lt (g := gb200) (o := .cells #[.string a0_0, .int .i64 a0_1, .int .i64 a0_2, .slice A0_3 l0_3.length c0_3, .slice A0_4 l0_4.length c0_4, .slice (some ad201) l0_5.length c0_5] 35 (0, 0)) (by (with_reducible repeat (first | refine blk_drewN ?_ _ | refine blk_drew ?_ | refine blk_alloc ?_ _)); exact BK200.out)) : gb202 ≠ gb200)); clear HO_5; clear BK200; clear HB; have HO_5 := n0_; have BK200 := n1_; have HB := n2_; have BK202 := n3_; have GW202 := n4_; have GE202 := n5_; have NB200_202 := n6_; have NB202_200 := n7_; clear n0_ n1_ n2_ n3_ n4_ n5_ n6_ n7_; clear hb hbox hg; have hnb15 := NB202_200.out; have hnc15 := NB200_202.out; have hcz16_0 : w14.cell? ⟨gb202, 0, none⟩ = some (.int .i64 0) := (blk_cell BK202.out 0).trans rfl; have hcz16_1 : w14.cell? ⟨gb202, 1, none⟩ = some (.slice none 0 0) := (blk_cell BK202.out 1).trans rfl; have hfz16_0 := blk_frozen BK202.out 0; have hfz16_1 := blk_frozen BK202.out 1))
      go_roundg k1
      case measure => have := HK1.out; omega
      case rel => exact ⟨(x5_1), (wrap64 (x11_1 + 1)), (by first | rfl | (simp; done) | (simp [*]; done)), H', ⟨by have := HK1.out; omega⟩, ⟨by exact rU (Kd.R_mono (Kd.R_far (p := ⟨gb202, 1, none⟩) (Kd.R_far (p := ⟨gb202, 0, none⟩) (Kd.R_types HO_5.out BK202.out (by decide)) (fun _ hk => hk.2) (.int .i64 ((rd_T31 l0_5 x11_1).f0))) (fun _ hk => hk.2) (.slice A201_1 ((rd_T31 l0_5 x11_1).f1).length c201_1)) (fun _ hk => trivial))⟩, ⟨by (with_reducible repeat (first | refine blk_drewN ?_ _ | refine blk_drew ?_ | refine blk_alloc ?_ _)); refine blk_far ?_ NB200_202.out _; (with_reducible repeat (first | refine blk_drewN ?_ _ | refine blk_drew ?_ | refine blk_alloc ?_ _)); refine blk_far ?_ NB200_202.out _; (with_reducible repeat (first | refine blk_drewN ?_ _ | refine blk_drew ?_ | refine blk_alloc ?_ _)); exact BK200.out⟩, ⟨by exact wZ HB.out GE200.out GE202.out⟩⟩
    rw [if_pos c8] at H
    have c8b0 : (((rd_T31 l0_5 x11_1).f0) == a1) = true := beq_iff_eq.mpr c8
    have c8b1 : (((rd_T31 l0_5 x11_1).f0) != a1) = false := bne_eq_false_iff_eq.mpr c8
    clear c8
    by_cases c9 : x5_1.length < 17592186044416
    rotate_left
    · rw [if_neg c9] at H
      exact absurd H (by simp)
    rw [if_pos c9] at H
    have LMc9 := Aside0.mk c9
    clear c9
    obtain ⟨y203, hy203⟩ : ∃ y_ : List Int, y_ = (x5_1 ++ [x11_1]) := ⟨_, rfl⟩
    replace H : (render_Styles.l0 k1 a1 y203 l0_5 (l0_5.length : Int) (wrap64 (x11_1 + 1))) = some r := by first | (rw [hy203]; with_reducible exact H) | (have H2_ := (Option.bind_some _ _).symm.trans H; rw [hy203]; with_reducible exact H2_) | (have H2_ := (Option.bind_some _ _).symm.trans H; with_reducible exact H2_) | with_reducible exact H | (rw [hy203]; exact H) | exact H
    have Ny203 := Aside0.mk hy203
    clear hy203
    have H' := Aside0.mk H
    clear H
    have p201 : 0 ≤ (x11_1 : Int) := of_decide_eq_true (by first | (with_reducible assumption) | assumption)
    have q201 : x11_1 < (l0_5.length : Int) := of_decide_eq_true (by first | (with_reducible assumption) | assumption)
    obtain ⟨ad201, A201_1, c201_1, e201, hx201_0, hx201_1, hl201_1, hi201_1⟩ := at_T31 HR0_5.out x11_1 p201 q201
    cases e201
    replace hx201_0 := (HB.out.cell (World.block_lt_of_cell? w _ hx201_0)).trans hx201_0
    replace hx201_1 := (HB.out.cell (World.block_lt_of_cell? w _ hx201_1)).trans hx201_1
    have HR201_1 := Aside0.mk hi201_1
    have HC201_1 := Aside0.mk hl201_1
    clear hi201_1 hl201_1
    replace p201 := eq_true p201
    replace q201 := eq_true q201
    go_wp2_with (first | ((with_reducible refine gate_dst (N := 7) rfl ?_); refine box_event ?hg (N := 7) ?hd (cs := #[.int .i64 0, .slice none 0 0]) (t := 31) ?hr ?_; (case hd => rfl); (case hg => rfl); (case hr => first | (go_simp; done) | (go_simp; rfl)); intro gb202 hg w10 hbox hb; have n0_ := Aside0.mk (Kd.R_below (by exact rU HO_5.out) hb); have n1_ := Aside0.mk (blk_below (g := gb200) (o := .cells #[.string a0_0, .int .i64 a0_1, .int .i64 a0_2, .slice A0_3 l0_3.length c0_3, .slice A0_4 l0_4.length c0_4, .slice (some ad201) l0_5.length c0_5] 35 (0, 0)) (by (with_reducible repeat (first | refine blk_drewN ?_ _ | refine blk_drew ?_ | refine blk_alloc ?_ _)); exact BK200.out) hb); have n2_ := Aside0.mk (below_step (by exact wS HB.out GE200.out) hb); have n3_ := Aside0.mk (hbox); have n4_ := Aside0.mk ((by rw [hg]; exact (below_size (by exact wS HB.out GE200.out)) : w.heap.size ≤ gb202)); have n5_ := Aside0.mk ((by rw [hg]; exact (below_size (by exact wS HB.out GE200.out)) : w.heap.size ≤ gb202)); have n6_ := Aside0.mk ((by rw [hg]; exact Nat.ne_of_lt (blk_lt (g := gb200) (o := .cells #[.string a0_0, .int .i64 a0_1, .int .i64 a0_2, .slice A0_3 l0_3.length c0_3, .slice A0_4 l0_4.length c0_4, .slice (some ad201) l0_5.length c0_5] 35 (0, 0)) (by (with_reducible repeat (first | refine blk_drewN ?_ _ | refine blk_drew ?_ | refine blk_alloc ?_ _)); exact BK200.out)) : gb200 ≠ gb202)); have n7_ := Aside0.mk ((by rw [hg]; exact Nat.ne_of_gt (blk_lt (g := gb200) (o := .cells #[.string a0_0, .int .i64 a0_1, .int .i64 a0_2, .slice A0_3 l0_3.length c0_3, .slice A0_4 l0_4.length c0_4, .slice (some ad201) l0_5.length c0_5] 35 (0, 0)) (by (with_reducible repeat (first | refine blk_drewN ?_ _ | refine blk_drew ?_ | refine blk_alloc ?_ _)); exact BK200.out)) : gb202 ≠ gb200)); clear HO_5; clear BK200; clear HB; have HO_5 := n0_; have BK200 := n1_; have HB := n2_; have BK202 := n3_; have GW202 := n4_; have GE202 := n5_; have NB200_202 := n6_; have NB202_200 := n7_; clear n0_ n1_ n2_ n3_ n4_ n5_ n6_ n7_; clear hb hbox hg; have hnb11 := NB202_200.out; have hnc11 := NB200_202.out; have hcz12_0 : w10.cell? ⟨gb202, 0, none⟩ = some (.int .i64 0) := (blk_cell BK202.out 0).trans rfl; have hcz12_1 : w10.cell? ⟨gb202, 1, none⟩ = some (.slice none 0 0) := (blk_cell BK202.out 1).trans rfl; have hfz12_0 := blk_frozen BK202.out 0; have hfz12_1 := blk_frozen BK202.out 1) | ((with_reducible refine gate_builtin (b := .append) (xs := #[.tmp 20, .tmp 22]) rfl ?_); at_builtin; refine Kd.R_append (Kd.int .i64) (w0 := w) w.heap.size rfl (.tmp 20) (.tmp 22) 36 3 (.int .i64 0) 8 rfl Tryd.underlying36 info3 rfl (by decide) (by omega) u5 x5_1 x11_1 [.int .i64 x11_1] (fun _ => True) (fun _ => False) rfl (by first | (go_simp; done) | (go_simp; rfl)) ?aP (fun _ hk => hk.elim) ?aF ?aO ?aB ?aS ?aL ?_; (case aP => exact rfl); (case aB => exact (by exact wZ HB.out GE200.out GE202.out)); (case aF => exact (fun _ _ => trivial)); (case aO => exact (by exact rU (Kd.R_mono (Kd.R_far (p := ⟨gb202, 1, none⟩) (Kd.R_far (p := ⟨gb202, 0, none⟩) (Kd.R_types HO_5.out BK202.out (by decide)) (fun _ hk => hk.2) (.int .i64 ((rd_T31 l0_5 x11_1).f0))) (fun _ hk => hk.2) (.slice A201_1 ((rd_T31 l0_5 x11_1).f1).length c201_1)) (fun _ hk => trivial)))); (case aS => exact (below_size (by exact wZ HB.out GE200.out GE202.out))); (case aL => have := LMc9.out; omega); intro v204 w13 ho hb hg hat; rw [← Ny203.out] at ho; have n0_ := Aside0.mk (blk_grown (g := gb200) (o := .cells #[.string a0_0, .int .i64 a0_1, .int .i64 a0_2, .slice A0_3 l0_3.length c0_3, .slice A0_4 l0_4.length c0_4, .slice (some ad201) l0_5.length c0_5] 35 (0, 0)) (by (with_reducible repeat (first | refine blk_drewN ?_ _ | refine blk_drew ?_ | refine blk_alloc ?_ _)); refine blk_far ?_ NB200_202.out _; (with_reducible repeat (first | refine blk_drewN ?_ _ | refine blk_drew ?_ | refine blk_alloc ?_ _)); refine blk_far ?_ NB200_202.out _; (with_reducible repeat (first | refine blk_drewN ?_ _ | refine blk_drew ?_ | refine blk_alloc ?_ _)); exact BK200.out) hg (Kd.R_ne HO_5.out BK200.out (by decide))); have n1_ := Aside0.mk (blk_grown (g := gb202) (o := .cells #[.int .i64 ((rd_T31 l0_5 x11_1).f0), .slice A201_1 ((rd_T31 l0_5 x11_1).f1).length c201_1] 31 (0, 0)) (by (with_reducible repeat (first | refine blk_drewN ?_ _ | refine blk_drew ?_ | refine blk_alloc ?_ _)); refine blk_put (cs := #[.int .i64 ((rd_T31 l0_5 x11_1).f0), .slice none 0 0]) ?_ 1 _ rfl; (with_reducible repeat (first | refine blk_drewN ?_ _ | refine blk_drew ?_ | refine blk_alloc ?_ _)); refine blk_put (cs := #[.int .i64 0, .slice none 0 0]) ?_ 0 _ rfl; (with_reducible repeat (first | refine blk_drewN ?_ _ | refine blk_drew ?_ | refine blk_alloc ?_ _)); exact BK202.out) hg (Kd.R_ne HO_5.out BK202.out (by decide))); have n2_ := Aside0.mk (hb); have n3_ := Aside0.mk (ho); clear BK200; clear BK202; clear HB; clear HO_5; have BK200 := n0_; have BK202 := n1_; have HB := n2_; have HO205 := n3_; clear n0_ n1_ n2_ n3_; clear ho hb hg hat))
    go_roundg k1
    case measure => have := HK1.out; omega
    case rel => exact ⟨(y203), (wrap64 (x11_1 + 1)), (by first | rfl | (simp; done) | (simp [*]; done)), H', ⟨by have := HK1.out; omega⟩, ⟨by exact rU HO205.out⟩, ⟨by (with_reducible repeat (first | refine blk_drewN ?_ _ | refine blk_drew ?_ | refine blk_alloc ?_ _)); exact BK200.out⟩, ⟨by exact wZ HB.out GE200.out GE202.out⟩⟩
end Go.Proofs.YtjijikgandkphaaDoor.G
