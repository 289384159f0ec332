import Derived.Test.YtgbnfjhmobeloaaGx0
import Derived.Test.YtgbnfjhmobeloaaGx15
import Derived.Test.YtgbnfjhmobeloaaGx23
import Derived.Test.YtgbnfjhmobeloaaGx24
import Derived.Test.YtgbnfjhmobeloaaGx25
namespace Go.Proofs.Ytgbnfjhmobeloaa.G
open Go.RowKit Go.Proofs.YtgbnfjhmobeloaaW.PrintWords Go.Proofs.YtgbnfjhmobeloaaW.PrintLast Go.Proofs.YtgbnfjhmobeloaaW.PrintMore Go.Proofs.YtgbnfjhmobeloaaW.VWords
attribute [local go_sem] max2_int min2_int max_two min_two max_three min_three max_four min_four
set_option linter.unusedVariables false
set_option linter.unusedSimpArgs false
theorem F_bnd {α : Type} {d : Kd α} {W : World} {ok : Nat → Prop} {A : Option Addr} {n : Nat} {xs : List α} (h : Kd.F d W ok A n xs) : Kd.F d W (fun k => ok k ∧ k < W.heap.size) A n xs := Foot.bound h
theorem atF_mono : ∀ k (l : List S32) i, LeO (atF k l i) (atF (k + 1) l i)
 | 0, _, _ => fun r h => by cases h
 | k + 1, l, i => by
  rw [atF, atF]
  exact LeO.ite (LeO.ite (LeO.refl _) (LeO.bind (atF_mono k l _) (fun p => LeO.refl _))) (LeO.refl _)
theorem resF_mono (k : Nat) (l : List S32) (id : ByteArray) : ∀ xs i, LeO (resF k l id xs i) (resF (k + 1) l id xs i)
 | [], _ => LeO.refl _
 | x :: xs, i => LeO.ite (atF_mono k l i) (resF_mono k l id xs (i + 1))
def interlocutorlaw6_Locale.f (k : Nat) (a0_0 a0_1 a0_2 a0_3 : Int) (l0_4 : List S85) (a0_5 : Bool) (a1 : Int) : Option (ByteArray × Int × Int × (List S53) × (List S108) × (List S138)) :=
 (interlocutorlaw5_Shape_Make.f a0_0 a0_1 a0_2 a0_3 l0_4 a0_5).bind fun l => (interlocutorlaw6_within.f a1 (l.length : Int)).bind fun t => if 0 ≤ t ∧ t < (l.length : Int) then (resF k l (rd_T32 l t).f0 l 0).bind fun r => some (r.f0, r.f1, r.f2, r.f3, r.f4, r.f5) else none
theorem interlocutorlaw6_Locale.mono : ∀ a0 a1 a2 a3 a4 a5 a6 k, LeO (interlocutorlaw6_Locale.f k a0 a1 a2 a3 a4 a5 a6) (interlocutorlaw6_Locale.f (k + 1) a0 a1 a2 a3 a4 a5 a6) := by
 intro a0 a1 a2 a3 a4 a5 a6 k
 exact LeO.bind (LeO.refl _) (fun l => LeO.bind (LeO.refl _) (fun t => LeO.ite (LeO.bind (resF_mono _ _ _ _ _) (fun r => LeO.refl _)) (LeO.refl _)))
set_option maxHeartbeats 8000000 in
set_option maxRecDepth 100000 in
theorem locale_walk (k : Nat) (a0_0 a0_1 a0_2 a0_3 : Int) (A0_4 : Option Addr) (c0_4 : Nat) (l0_4 : List S85) (a0_5 : Bool) (a1 : Int) (l : List S32) (t : Int) (x r : S32) (w : World) (hC : Kd.C k85 w A0_4 l0_4.length l0_4) (hc : l0_4.length ≤ c0_4)
  (hm : interlocutorlaw5_Shape_Make.f a0_0 a0_1 a0_2 a0_3 l0_4 a0_5 = some l) (ht : interlocutorlaw6_within.f a1 (l.length : Int) = some t) (q0 : 0 ≤ t) (q1 : t < (l.length : Int)) (hx : x = rd_T32 l t) (hr : resF k l x.f0 l 0 = some r) :
  Calls Try.prog 16 #[.agg #[.int .i64 a0_0, .int .i64 a0_1, .int .i64 a0_2, .int .i64 a0_3, .slice A0_4 l0_4.length c0_4, .bool a0_5], .int .i64 a1] w fun e w' => ∃ P3 d3 P4 d4 P5 d5, e = .returned (.agg #[.string r.f0, .int .i64 r.f1, .int .i64 r.f2, .slice P3 r.f3.length d3, .slice P4 r.f4.length d4, .slice P5 r.f5.length d5]) ∧ r.f3.length ≤ d3 ∧ Kd.F k53 w' (fun b => w.heap.size ≤ b) P3 r.f3.length r.f3 ∧ r.f4.length ≤ d4 ∧ Kd.F k108 w' (fun b => w.heap.size ≤ b) P4 r.f4.length r.f4 ∧ r.f5.length ≤ d5 ∧ Kd.F k138 w' (fun b => w.heap.size ≤ b) P5 r.f5.length r.f5 ∧ Below w.heap.size w w' := by
 have hu24 := Try.underlying24
 have hu32 := Try.underlying32
 have hu62 := Try.underlying62
 have HC := Aside0.mk hC
 have HCC := Aside0.mk hc
 have HM := Aside0.mk hm
 have HT := Aside0.mk ht
 have HX := Aside0.mk hx
 have HR := Aside0.mk hr
 clear hC hc hm ht hx hr
 go_enter Try.func16, Try.ntmps16
 go_wp2_with (first
  | ((with_reducible refine gate_dst (N := 2) rfl ?_); refine box_event ?hg (N := 2) ?hd (cs := #[.int .i64 a0_0, .int .i64 a0_1, .int .i64 a0_2, .int .i64 a0_3, .slice A0_4 l0_4.length c0_4, .bool a0_5]) (t := 24) ?hr ?_; (case hd => rfl); (case hg => rfl); (case hr => first | (go_simp; done) | (go_simp; rfl)); intro g2 hg2 w2 hbox hb; have B2 := Aside0.mk hbox; have HD := Aside0.mk hb; clear hbox hb hg2)
  | ((with_reducible refine gate_dst (N := 4) rfl ?_); refine box_event ?hg (N := 4) ?hd (cs := #[.string (⟨#[]⟩ : ByteArray), .int .i64 0, .int .i64 0, .slice none 0 0, .slice none 0 0, .slice none 0 0]) (t := 32) ?hr ?_; (case hd => rfl); (case hg => rfl); (case hr => first | (go_simp; done) | (go_simp; rfl)); intro g4 hg4 w4 hbox hb; have NQ4 := Aside0.mk (show w.heap.size ≤ g4 by rw [hg4]; exact below_size HD.out); have B4 := Aside0.mk hbox; have B2' := Aside0.mk (blk_below B2.out hb); have HD2 := Aside0.mk (below_step HD.out hb); clear hbox hb hg4 B2 HD; have HD := HD2; clear HD2; have s0 : w4.cell? ⟨g2, 0, none⟩ = some (.int .i64 a0_0) := (blk_cell B2'.out 0).trans rfl; have s1 : w4.cell? ⟨g2, 1, none⟩ = some (.int .i64 a0_1) := (blk_cell B2'.out 1).trans rfl; have s2 : w4.cell? ⟨g2, 2, none⟩ = some (.int .i64 a0_2) := (blk_cell B2'.out 2).trans rfl; have s3 : w4.cell? ⟨g2, 3, none⟩ = some (.int .i64 a0_3) := (blk_cell B2'.out 3).trans rfl; have s4 : w4.cell? ⟨g2, 4, none⟩ = some (.slice A0_4 l0_4.length c0_4) := (blk_cell B2'.out 4).trans rfl; have s5 : w4.cell? ⟨g2, 5, none⟩ = some (.bool a0_5) := (blk_cell B2'.out 5).trans rfl)
  | (go_at_call 31; (with_reducible refine (interlocutorlaw5_Shape_Make.calls a0_0 a0_1 a0_2 a0_3 A0_4 c0_4 l0_4 a0_5 l _ (Kd.C_below HC.out HD.out) HCC.out HM.out).mono ?_); rintro e wm ⟨v, rfl, ho, hb⟩; obtain ⟨A, c, e⟩ := Kd.N_slice ho; subst e; have HF := Aside0.mk (Kd.F_mono (ok' := fun b => w.heap.size ≤ b ∧ b ≠ g4) (Kd.N_F ho) (fun b hk => ⟨Nat.le_trans (below_size HD.out) hk, fun e => by have := blk_lt B4.out; omega⟩)); have HLC := Aside0.mk (Kd.N_reads' ho).2.1; replace B4 := Aside0.mk (blk_below B4.out hb); replace HD := Aside0.mk (below_step HD.out hb); clear ho hb s0 s1 s2 s3 s4 s5 B2')
  | (go_at_call 27; (with_reducible refine (interlocutorlaw6_within.calls a1 (l.length : Int) t _ HT.out).mono ?_); rintro e wt ⟨rfl, hd⟩; replace HF := Aside0.mk (Kd.F_below HF.out (show Below wm.heap.size wm wt from hd.below)); replace B4 := Aside0.mk (blk_below B4.out hd.below); replace HD := Aside0.mk (below_step HD.out hd.below); obtain ⟨ad, A3, c3, A4, c4, A5, c5, e, hx0, hx1, hx2, hx3, hx4, hx5, l3, f3, l4, f4, l5, f5⟩ := at_F HF.out t q0 q1 x HX.out; subst e; clear hd hx1 hx2 hx3 hx4 hx5 l3 f3 l4 f4 l5 f5)
  | (go_at_call 32; (with_reducible refine (resolve_walk k l x.f0 r (fun b => w.heap.size ≤ b ∧ b ≠ g4) wt.heap.size (some ad) c wt (Nat.le_refl _) (F_bnd HF.out) HLC.out HR.out).mono ?_); rintro e wr ⟨P3, d3, P4, d4, P5, d5, rfl, m3, y3, m4, y4, m5, y5, hb⟩; have SZ := Aside0.mk (below_size HD.out); have LT := Aside0.mk (blk_lt B4.out); have oo : ∀ b, ((((w.heap.size ≤ b ∧ b ≠ g4) ∧ b < wt.heap.size) ∨ wt.heap.size ≤ b) ∧ b < wr.heap.size) → (w.heap.size ≤ b ∧ b ≠ g4) ∧ b < wr.heap.size := (fun b hb => ⟨hb.1.elim (fun h => h.1) (fun h => ⟨Nat.le_trans SZ.out h, fun e => by have := LT.out; omega⟩), hb.2⟩); replace B4 := Aside0.mk (blk_below B4.out hb); replace HD := Aside0.mk (below_step HD.out hb); have FR := Aside0.mk (And.intro m3 (And.intro (Kd.F_mono (F_bnd y3) oo) (And.intro m4 (And.intro (Kd.F_mono (F_bnd y4) oo) (And.intro m5 (Kd.F_mono (F_bnd y5) oo)))))); clear m3 y3 m4 y4 m5 y5 hb oo HF hx0)
  | ((with_reducible refine gate_dst (N := 6) rfl ?_); refine box_event ?hg (N := 6) ?hd (cs := #[.string (⟨#[]⟩ : ByteArray), .int .i64 0, .int .i64 0, .slice none 0 0, .slice none 0 0, .slice none 0 0]) (t := 32) ?hr ?_; (case hd => rfl); (case hg => rfl); (case hr => first | (go_simp; done) | (go_simp; rfl)); intro g6 hg6 w6 hbox hb; have E6 := Aside0.mk hg6; have B6 := Aside0.mk hbox; have H6 := Aside0.mk hb; have B46 := Aside0.mk (blk_below B4.out hb); have hn64 : g6 ≠ g4 := (by have := blk_lt B4.out; omega); have hn46 := Ne.symm hn64; clear hbox hb hg6; have p0 : w6.cell? ⟨g6, 0, none⟩ = some (.string (⟨#[]⟩ : ByteArray)) := (blk_cell B6.out 0).trans rfl; have pf0 := blk_frozen B6.out 0; have q0_ : w6.cell? ⟨g4, 0, none⟩ = some (.string (⟨#[]⟩ : ByteArray)) := (blk_cell B46.out 0).trans rfl; have qf0 := blk_frozen B46.out 0; have p1 : w6.cell? ⟨g6, 1, none⟩ = some (.int .i64 0) := (blk_cell B6.out 1).trans rfl; have pf1 := blk_frozen B6.out 1; have q1_ : w6.cell? ⟨g4, 1, none⟩ = some (.int .i64 0) := (blk_cell B46.out 1).trans rfl; have qf1 := blk_frozen B46.out 1; have p2 : w6.cell? ⟨g6, 2, none⟩ = some (.int .i64 0) := (blk_cell B6.out 2).trans rfl; have pf2 := blk_frozen B6.out 2; have q2_ : w6.cell? ⟨g4, 2, none⟩ = some (.int .i64 0) := (blk_cell B46.out 2).trans rfl; have qf2 := blk_frozen B46.out 2; have p3 : w6.cell? ⟨g6, 3, none⟩ = some (.slice none 0 0) := (blk_cell B6.out 3).trans rfl; have pf3 := blk_frozen B6.out 3; have q3_ : w6.cell? ⟨g4, 3, none⟩ = some (.slice none 0 0) := (blk_cell B46.out 3).trans rfl; have qf3 := blk_frozen B46.out 3; have p4 : w6.cell? ⟨g6, 4, none⟩ = some (.slice none 0 0) := (blk_cell B6.out 4).trans rfl; have pf4 := blk_frozen B6.out 4; have q4_ : w6.cell? ⟨g4, 4, none⟩ = some (.slice none 0 0) := (blk_cell B46.out 4).trans rfl; have qf4 := blk_frozen B46.out 4; have p5 : w6.cell? ⟨g6, 5, none⟩ = some (.slice none 0 0) := (blk_cell B6.out 5).trans rfl; have pf5 := blk_frozen B6.out 5; have q5_ : w6.cell? ⟨g4, 5, none⟩ = some (.slice none 0 0) := (blk_cell B46.out 5).trans rfl; have qf5 := blk_frozen B46.out 5))
 obtain ⟨m3, y3, m4, y4, m5, y5⟩ := FR.out
 have k4 := set6_blk ((set6_far w6 g6 g4 (.string r.f0) (.int .i64 r.f1) (.int .i64 r.f2) (.slice P3 r.f3.length d3) (.slice P4 r.f4.length d4) (.slice P5 r.f5.length d5) hn46).trans B46.out) (.string r.f0) (.int .i64 r.f1) (.int .i64 r.f2) (.slice P3 r.f3.length d3) (.slice P4 r.f4.length d4) (.slice P5 r.f5.length d5)
 have s : ∀ b, ((w.heap.size ≤ b ∧ b ≠ g4) ∧ b < wr.heap.size) → b < wr.heap.size → (set6 (set6 w6 g6 (.string r.f0) (.int .i64 r.f1) (.int .i64 r.f2) (.slice P3 r.f3.length d3) (.slice P4 r.f4.length d4) (.slice P5 r.f5.length d5)) g4 (.string r.f0) (.int .i64 r.f1) (.int .i64 r.f2) (.slice P3 r.f3.length d3) (.slice P4 r.f4.length d4) (.slice P5 r.f5.length d5)).heap[b]? = wr.heap[b]? := fun b hb hlt => by
  have := E6.out
  rw [set6_far _ _ _ _ _ _ _ _ _ hb.1.2, set6_far _ _ _ _ _ _ _ _ _ (by omega)]
  exact H6.out.block b hlt
 have n6 : w.heap.size ≤ g6 := by rw [E6.out]; exact below_size HD.out
 refine bodyPost_ret (results_cell_row rfl _ _ g4 32 #[.string r.f0, .int .i64 r.f1, .int .i64 r.f2, .slice P3 r.f3.length d3, .slice P4 r.f4.length d4, .slice P5 r.f5.length d5] (0, 0) _ rfl k4 Try.underlying32 rfl (by kernel_rfl)) rfl ?_
 have o : ∀ b, ((w.heap.size ≤ b ∧ b ≠ g4) ∧ b < wr.heap.size) → w.heap.size ≤ b := fun b hb => hb.1.1
 exact ⟨P3, d3, P4, d4, P5, d5, by first | rfl | simp, m3, Kd.F_mono (Kd.F_step y3 s) o, m4, Kd.F_mono (Kd.F_step y4 s) o, m5, Kd.F_mono (Kd.F_step y5 s) o, set6_below _ _ _ _ _ _ (set6_below _ _ _ _ _ _ (below_step HD.out H6.out) n6) NQ4.out⟩
theorem interlocutorlaw6_Locale.calls (k : Nat) (a0_0 : Int) (a0_1 : Int) (a0_2 : Int) (a0_3 : Int) (A0_4 : Option Addr) (c0_4 : Nat) (l0_4 : List (S85)) (a0_5 : Bool) (a1 : Int) (r1 : ByteArray) (r2 : Int) (r3 : Int) (r4 : List (S53)) (r5 : List (S108)) (r6 : List (S138)) (w : World) (hr0_4 : Kd.C k85 w A0_4 l0_4.length l0_4) (hc0_4 : l0_4.length ≤ c0_4) (h : interlocutorlaw6_Locale.f k a0_0 a0_1 a0_2 a0_3 l0_4 a0_5 a1 = some (r1, r2, r3, r4, r5, r6)) :
  Calls Try.prog 16 #[.agg #[.int .i64 a0_0, .int .i64 a0_1, .int .i64 a0_2, .int .i64 a0_3, .slice A0_4 l0_4.length c0_4, .bool a0_5], .int .i64 a1] w fun e w' => ∃ v3_ v4_ v5_ : Value, e = .returned (.agg #[.string r1, .int .i64 r2, .int .i64 r3, v3_, v4_, v5_]) ∧ Kd.V k53 53 w' w.heap.size (fun k_ => (w.heap.size ≤ k_)) v3_ r4 ∧ Kd.V k108 108 w' w.heap.size (fun k_ => (w.heap.size ≤ k_)) v4_ r5 ∧ Kd.V k138 138 w' w.heap.size (fun k_ => (w.heap.size ≤ k_)) v5_ r6 ∧ Below w.heap.size w w' := by
 obtain ⟨l, hm, h⟩ := Option.bind_eq_some_iff.mp h
 obtain ⟨t, ht, h⟩ := Option.bind_eq_some_iff.mp h
 by_cases hq : 0 ≤ t ∧ t < (l.length : Int)
 ·rw [if_pos hq] at h
  obtain ⟨r, hr, h⟩ := Option.bind_eq_some_iff.mp h
  simp only [Option.some.injEq, Prod.mk.injEq] at h
  obtain ⟨rfl, rfl, rfl, rfl, rfl, rfl⟩ := h
  refine (locale_walk k a0_0 a0_1 a0_2 a0_3 A0_4 c0_4 l0_4 a0_5 a1 l t _ r w hr0_4 hc0_4 hm ht hq.1 hq.2 rfl hr).mono ?_
  rintro e w' ⟨P3, d3, P4, d4, P5, d5, rfl, m3, y3, m4, y4, m5, y5, hb⟩
  exact ⟨_, _, _, rfl, ⟨P3, d3, rfl, m3, y3⟩, ⟨P4, d4, rfl, m4, y4⟩, ⟨P5, d5, rfl, m5, y5⟩, hb⟩
 ·rw [if_neg hq] at h
  cases h
mutual
def interlocutorlaw6_Text.l0 : Nat → List Int → Int → List ByteArray → ByteArray → Int → Option (ByteArray)
 | 0, _, _, _, _, _ => none
 | k + 1, x0, x1, x5, x6, x7 => if x7 < (x0.length : Int) then (interlocutorlaw6_Text.j1 k x0 x1 x5 x6 x7 (decide (x7 < x1))) else (interlocutorlaw6_Text.j1 k x0 x1 x5 x6 x7 false)
def interlocutorlaw6_Text.j1 : Nat → List Int → Int → List ByteArray → ByteArray → Int → Bool → Option (ByteArray)
 | 0, _, _, _, _, _, _ => none
 | k + 1, x0, x1, x5, x6, x7, x17 => if x17 = true then (if 0 ≤ x7 then (if x7 < (x0.length : Int) then ((interlocutorlaw6_within.f (rd x0 x7) (x5.length : Int)).bind fun t227 => (if 0 ≤ t227 then (if t227 < (x5.length : Int) then (if x6.size + (rdOf ByteArray.empty x5 t227).size ≤ 9223372036854775807 then ((interlocutorlaw6_within.f (wrap64 (Int.tdiv (rd x0 x7) 64)) 3).bind fun t230 => (if t230 > 0 then (if (x6 ++ (rdOf ByteArray.empty x5 t227)).size + 1 ≤ 9223372036854775807 then (interlocutorlaw6_Text.l0 k x0 x1 x5 ((x6 ++ (rdOf ByteArray.empty x5 t227)) ++ (⟨#[32]⟩ : ByteArray)) (wrap64 (x7 + 1))) else (none)) else (interlocutorlaw6_Text.l0 k x0 x1 x5 (x6 ++ (rdOf ByteArray.empty x5 t227)) (wrap64 (x7 + 1))))) else (none)) else (none)) else (none))) else (none)) else (none)) else (some x6)
end
def interlocutorlaw6_Text.f (k : Nat) (l0 : List Int) (a1 : Int) : Option (ByteArray) := interlocutorlaw6_Text.l0 k l0 a1 (([(⟨#[49]⟩ : ByteArray), (⟨#[50]⟩ : ByteArray), (⟨#[49, 50]⟩ : ByteArray), (⟨#[51, 49]⟩ : ByteArray), (⟨#[50, 48, 50, 52]⟩ : ByteArray), (⟨#[57, 57]⟩ : ByteArray), (⟨#[48, 53]⟩ : ByteArray), (⟨#[47]⟩ : ByteArray), (⟨#[47]⟩ : ByteArray), (⟨#[45]⟩ : ByteArray), (⟨#[45]⟩ : ByteArray), (⟨#[46]⟩ : ByteArray), (⟨#[44]⟩ : ByteArray), (⟨#[58]⟩ : ByteArray), (⟨#[58]⟩ : ByteArray), (⟨#[32]⟩ : ByteArray), (⟨#[32]⟩ : ByteArray), (⟨#[109, 97, 121]⟩ : ByteArray), (⟨#[77, 65, 89]⟩ : ByteArray), (⟨#[100, 101, 99]⟩ : ByteArray), (⟨#[109, 111, 110, 100, 97, 121]⟩ : ByteArray), (⟨#[100, 97, 121]⟩ : ByteArray), (⟨#[100, 97, 121, 115]⟩ : ByteArray), (⟨#[119, 101, 101, 107]⟩ : ByteArray), (⟨#[109, 111, 110, 116, 104, 115]⟩ : ByteArray), (⟨#[97, 103, 111]⟩ : ByteArray), (⟨#[104, 101, 110, 99, 101]⟩ : ByteArray), (⟨#[97, 109]⟩ : ByteArray), (⟨#[112, 109]⟩ : ByteArray), (⟨#[101, 117, 114]⟩ : ByteArray), (⟨#[226, 130, 172]⟩ : ByteArray), (⟨#[121, 101, 110]⟩ : ByteArray), (⟨#[115]⟩ : ByteArray), (⟨#[109, 105, 110]⟩ : ByteArray), (⟨#[104]⟩ : ByteArray), (⟨#[116, 111]⟩ : ByteArray), (⟨#[97]⟩ : ByteArray), (⟨#[217, 163]⟩ : ByteArray), (⟨#[120]⟩ : ByteArray), (⟨#[9]⟩ : ByteArray), (⟨#[49, 47, 50, 47, 50, 48, 50, 52]⟩ : ByteArray), (⟨#[49, 50, 58, 51, 48]⟩ : ByteArray), (⟨#[51, 32, 100, 97, 121, 115, 32, 97, 103, 111]⟩ : ByteArray), (⟨#[53, 32, 104, 32, 51, 32, 109, 105, 110]⟩ : ByteArray)] : List ByteArray)) (⟨#[]⟩ : ByteArray) 0
theorem interlocutorlaw6_Text.mono_l : ∀ k, (∀ y0 y1 y2 y3 y4, LeO (interlocutorlaw6_Text.l0 k y0 y1 y2 y3 y4) (interlocutorlaw6_Text.l0 (k + 1) y0 y1 y2 y3 y4)) ∧ (∀ y0 y1 y2 y3 y4 y5, LeO (interlocutorlaw6_Text.j1 k y0 y1 y2 y3 y4 y5) (interlocutorlaw6_Text.j1 (k + 1) y0 y1 y2 y3 y4 y5))
 | 0 => ⟨fun _ _ _ _ _ r h => by simp [interlocutorlaw6_Text.l0] at h, fun _ _ _ _ _ _ r h => by simp [interlocutorlaw6_Text.j1] at h⟩
 | k + 1 => by
  obtain ⟨ih0, ih1⟩ := interlocutorlaw6_Text.mono_l k
  refine ⟨?_, ?_⟩
  ·intro y0 y1 y2 y3 y4
   unfold interlocutorlaw6_Text.l0
   repeat' first
   | (with_reducible exact ih0 _ _ _ _ _)
   | (with_reducible exact ih1 _ _ _ _ _ _)
   | (with_reducible exact LeO.refl _)
   | (with_reducible exact LeO.none _)
   | (with_reducible refine LeO.ite ?_ ?_)
   | (with_reducible refine LeO.bind ?_ (fun _ => ?_))
   | exact ih0 _ _ _ _ _
   | exact ih1 _ _ _ _ _ _
   | exact LeO.none _
   | refine LeO.ite ?_ ?_
   | refine LeO.bind ?_ (fun _ => ?_)
  ·intro y0 y1 y2 y3 y4 y5
   unfold interlocutorlaw6_Text.j1
   repeat' first
   | (with_reducible exact ih0 _ _ _ _ _)
   | (with_reducible exact ih1 _ _ _ _ _ _)
   | (with_reducible exact LeO.refl _)
   | (with_reducible exact LeO.none _)
   | (with_reducible refine LeO.ite ?_ ?_)
   | (with_reducible refine LeO.bind ?_ (fun _ => ?_))
   | exact ih0 _ _ _ _ _
   | exact ih1 _ _ _ _ _ _
   | exact LeO.none _
   | refine LeO.ite ?_ ?_
   | refine LeO.bind ?_ (fun _ => ?_)
theorem interlocutorlaw6_Text.mono : ∀ a0 a1 k, LeO (interlocutorlaw6_Text.f k a0 a1) (interlocutorlaw6_Text.f (k + 1) a0 a1) := by
 intro a0 a1 k
 obtain ⟨ih0, ih1⟩ := interlocutorlaw6_Text.mono_l k
 unfold interlocutorlaw6_Text.f
 repeat' first
   | (with_reducible exact ih0 _ _ _ _ _)
   | (with_reducible exact ih1 _ _ _ _ _ _)
   | (with_reducible exact LeO.refl _)
   | (with_reducible exact LeO.none _)
   | (with_reducible refine LeO.ite ?_ ?_)
   | (with_reducible refine LeO.bind ?_ (fun _ => ?_))
   | exact ih0 _ _ _ _ _
   | exact ih1 _ _ _ _ _ _
   | exact LeO.none _
   | refine LeO.ite ?_ ?_
   | refine LeO.bind ?_ (fun _ => ?_)
set_option maxHeartbeats 8000000 in
set_option maxRecDepth 100000 in
theorem interlocutorlaw6_Text.calls (k : Nat) (A0 : Option Addr) (c0 : Nat) (l0 : List Int) (a1 : Int) (r : ByteArray) (w : World) (hr0 : Kd.C (Kd.int .i64) w A0 l0.length l0) (hc0 : l0.length ≤ c0) (h : interlocutorlaw6_Text.f k l0 a1 = some r) :
  Calls Try.prog 17 #[.slice A0 l0.length c0, .int .i64 a1] w fun e w' => e = .returned (.string r) ∧ Below w.heap.size w w' := by
 have HR0 := Aside0.mk hr0
 have HC0 := Aside0.mk hc0
 clear hr0 hc0
 have HB := Aside0.mk (Below.refl w.heap.size w)
 have H : (interlocutorlaw6_Text.l0 k l0 a1 (([(⟨#[49]⟩ : ByteArray), (⟨#[50]⟩ : ByteArray), (⟨#[49, 50]⟩ : ByteArray), (⟨#[51, 49]⟩ : ByteArray), (⟨#[50, 48, 50, 52]⟩ : ByteArray), (⟨#[57, 57]⟩ : ByteArray), (⟨#[48, 53]⟩ : ByteArray), (⟨#[47]⟩ : ByteArray), (⟨#[47]⟩ : ByteArray), (⟨#[45]⟩ : ByteArray), (⟨#[45]⟩ : ByteArray), (⟨#[46]⟩ : ByteArray), (⟨#[44]⟩ : ByteArray), (⟨#[58]⟩ : ByteArray), (⟨#[58]⟩ : ByteArray), (⟨#[32]⟩ : ByteArray), (⟨#[32]⟩ : ByteArray), (⟨#[109, 97, 121]⟩ : ByteArray), (⟨#[77, 65, 89]⟩ : ByteArray), (⟨#[100, 101, 99]⟩ : ByteArray), (⟨#[109, 111, 110, 100, 97, 121]⟩ : ByteArray), (⟨#[100, 97, 121]⟩ : ByteArray), (⟨#[100, 97, 121, 115]⟩ : ByteArray), (⟨#[119, 101, 101, 107]⟩ : ByteArray), (⟨#[109, 111, 110, 116, 104, 115]⟩ : ByteArray), (⟨#[97, 103, 111]⟩ : ByteArray), (⟨#[104, 101, 110, 99, 101]⟩ : ByteArray), (⟨#[97, 109]⟩ : ByteArray), (⟨#[112, 109]⟩ : ByteArray), (⟨#[101, 117, 114]⟩ : ByteArray), (⟨#[226, 130, 172]⟩ : ByteArray), (⟨#[121, 101, 110]⟩ : ByteArray), (⟨#[115]⟩ : ByteArray), (⟨#[109, 105, 110]⟩ : ByteArray), (⟨#[104]⟩ : ByteArray), (⟨#[116, 111]⟩ : ByteArray), (⟨#[97]⟩ : ByteArray), (⟨#[217, 163]⟩ : ByteArray), (⟨#[120]⟩ : ByteArray), (⟨#[9]⟩ : ByteArray), (⟨#[49, 47, 50, 47, 50, 48, 50, 52]⟩ : ByteArray), (⟨#[49, 50, 58, 51, 48]⟩ : ByteArray), (⟨#[51, 32, 100, 97, 121, 115, 32, 97, 103, 111]⟩ : ByteArray), (⟨#[53, 32, 104, 32, 51, 32, 109, 105, 110]⟩ : ByteArray)] : List ByteArray)) (⟨#[]⟩ : ByteArray) 0) = some r := h
 clear h
 obtain ⟨y223, hy223⟩ : ∃ y_ : List ByteArray, y_ = (([(⟨#[49]⟩ : ByteArray), (⟨#[50]⟩ : ByteArray), (⟨#[49, 50]⟩ : ByteArray), (⟨#[51, 49]⟩ : ByteArray), (⟨#[50, 48, 50, 52]⟩ : ByteArray), (⟨#[57, 57]⟩ : ByteArray), (⟨#[48, 53]⟩ : ByteArray), (⟨#[47]⟩ : ByteArray), (⟨#[47]⟩ : ByteArray), (⟨#[45]⟩ : ByteArray), (⟨#[45]⟩ : ByteArray), (⟨#[46]⟩ : ByteArray), (⟨#[44]⟩ : ByteArray), (⟨#[58]⟩ : ByteArray), (⟨#[58]⟩ : ByteArray), (⟨#[32]⟩ : ByteArray), (⟨#[32]⟩ : ByteArray), (⟨#[109, 97, 121]⟩ : ByteArray), (⟨#[77, 65, 89]⟩ : ByteArray), (⟨#[100, 101, 99]⟩ : ByteArray), (⟨#[109, 111, 110, 100, 97, 121]⟩ : ByteArray), (⟨#[100, 97, 121]⟩ : ByteArray), (⟨#[100, 97, 121, 115]⟩ : ByteArray), (⟨#[119, 101, 101, 107]⟩ : ByteArray), (⟨#[109, 111, 110, 116, 104, 115]⟩ : ByteArray), (⟨#[97, 103, 111]⟩ : ByteArray), (⟨#[104, 101, 110, 99, 101]⟩ : ByteArray), (⟨#[97, 109]⟩ : ByteArray), (⟨#[112, 109]⟩ : ByteArray), (⟨#[101, 117, 114]⟩ : ByteArray), (⟨#[226, 130, 172]⟩ : ByteArray), (⟨#[121, 101, 110]⟩ : ByteArray), (⟨#[115]⟩ : ByteArray), (⟨#[109, 105, 110]⟩ : ByteArray), (⟨#[104]⟩ : ByteArray), (⟨#[116, 111]⟩ : ByteArray), (⟨#[97]⟩ : ByteArray), (⟨#[217, 163]⟩ : ByteArray), (⟨#[120]⟩ : ByteArray), (⟨#[9]⟩ : ByteArray), (⟨#[49, 47, 50, 47, 50, 48, 50, 52]⟩ : ByteArray), (⟨#[49, 50, 58, 51, 48]⟩ : ByteArray), (⟨#[51, 32, 100, 97, 121, 115, 32, 97, 103, 111]⟩ : ByteArray), (⟨#[53, 32, 104, 32, 51, 32, 109, 105, 110]⟩ : ByteArray)] : List ByteArray)) := ⟨_, rfl⟩
 replace H : (interlocutorlaw6_Text.l0 k l0 a1 y223 (⟨#[]⟩ : ByteArray) 0) = some r := by first | (rw [hy223]; with_reducible exact H) | (have H2_ := (Option.bind_some _ _).symm.trans H; rw [hy223]; with_reducible exact H2_) | (have H2_ := (Option.bind_some _ _).symm.trans H; with_reducible exact H2_) | with_reducible exact H | (rw [hy223]; exact H) | exact H
 have Ny223 := Aside0.mk hy223
 clear hy223
 have H' := Aside0.mk H
 clear H
 go_enter Try.func17, Try.ntmps17
 go_wp2_with (first | ((with_reducible refine gate_dst (N := 8) rfl ?_); refine Kd.R_lit Kd.string _ 9 ?hg (N := 8) ?hd (xs := ([(⟨#[49]⟩ : ByteArray), (⟨#[50]⟩ : ByteArray), (⟨#[49, 50]⟩ : ByteArray), (⟨#[51, 49]⟩ : ByteArray), (⟨#[50, 48, 50, 52]⟩ : ByteArray), (⟨#[57, 57]⟩ : ByteArray), (⟨#[48, 53]⟩ : ByteArray), (⟨#[47]⟩ : ByteArray), (⟨#[47]⟩ : ByteArray), (⟨#[45]⟩ : ByteArray), (⟨#[45]⟩ : ByteArray), (⟨#[46]⟩ : ByteArray), (⟨#[44]⟩ : ByteArray), (⟨#[58]⟩ : ByteArray), (⟨#[58]⟩ : ByteArray), (⟨#[32]⟩ : ByteArray), (⟨#[32]⟩ : ByteArray), (⟨#[109, 97, 121]⟩ : ByteArray), (⟨#[77, 65, 89]⟩ : ByteArray), (⟨#[100, 101, 99]⟩ : ByteArray), (⟨#[109, 111, 110, 100, 97, 121]⟩ : ByteArray), (⟨#[100, 97, 121]⟩ : ByteArray), (⟨#[100, 97, 121, 115]⟩ : ByteArray), (⟨#[119, 101, 101, 107]⟩ : ByteArray), (⟨#[109, 111, 110, 116, 104, 115]⟩ : ByteArray), (⟨#[97, 103, 111]⟩ : ByteArray), (⟨#[104, 101, 110, 99, 101]⟩ : ByteArray), (⟨#[97, 109]⟩ : ByteArray), (⟨#[112, 109]⟩ : ByteArray), (⟨#[101, 117, 114]⟩ : ByteArray), (⟨#[226, 130, 172]⟩ : ByteArray), (⟨#[121, 101, 110]⟩ : ByteArray), (⟨#[115]⟩ : ByteArray), (⟨#[109, 105, 110]⟩ : ByteArray), (⟨#[104]⟩ : ByteArray), (⟨#[116, 111]⟩ : ByteArray), (⟨#[97]⟩ : ByteArray), (⟨#[217, 163]⟩ : ByteArray), (⟨#[120]⟩ : ByteArray), (⟨#[9]⟩ : ByteArray), (⟨#[49, 47, 50, 47, 50, 48, 50, 52]⟩ : ByteArray), (⟨#[49, 50, 58, 51, 48]⟩ : ByteArray), (⟨#[51, 32, 100, 97, 121, 115, 32, 97, 103, 111]⟩ : ByteArray), (⟨#[53, 32, 104, 32, 51, 32, 109, 105, 110]⟩ : ByteArray)] : List ByteArray)) (inner := [.string (⟨#[49]⟩ : ByteArray), .string (⟨#[50]⟩ : ByteArray), .string (⟨#[49, 50]⟩ : ByteArray), .string (⟨#[51, 49]⟩ : ByteArray), .string (⟨#[50, 48, 50, 52]⟩ : ByteArray), .string (⟨#[57, 57]⟩ : ByteArray), .string (⟨#[48, 53]⟩ : ByteArray), .string (⟨#[47]⟩ : ByteArray), .string (⟨#[47]⟩ : ByteArray), .string (⟨#[45]⟩ : ByteArray), .string (⟨#[45]⟩ : ByteArray), .string (⟨#[46]⟩ : ByteArray), .string (⟨#[44]⟩ : ByteArray), .string (⟨#[58]⟩ : ByteArray), .string (⟨#[58]⟩ : ByteArray), .string (⟨#[32]⟩ : ByteArray), .string (⟨#[32]⟩ : ByteArray), .string (⟨#[109, 97, 121]⟩ : ByteArray), .string (⟨#[77, 65, 89]⟩ : ByteArray), .string (⟨#[100, 101, 99]⟩ : ByteArray), .string (⟨#[109, 111, 110, 100, 97, 121]⟩ : ByteArray), .string (⟨#[100, 97, 121]⟩ : ByteArray), .string (⟨#[100, 97, 121, 115]⟩ : ByteArray), .string (⟨#[119, 101, 101, 107]⟩ : ByteArray), .string (⟨#[109, 111, 110, 116, 104, 115]⟩ : ByteArray), .string (⟨#[97, 103, 111]⟩ : ByteArray), .string (⟨#[104, 101, 110, 99, 101]⟩ : ByteArray), .string (⟨#[97, 109]⟩ : ByteArray), .string (⟨#[112, 109]⟩ : ByteArray), .string (⟨#[101, 117, 114]⟩ : ByteArray), .string (⟨#[226, 130, 172]⟩ : ByteArray), .string (⟨#[121, 101, 110]⟩ : ByteArray), .string (⟨#[115]⟩ : ByteArray), .string (⟨#[109, 105, 110]⟩ : ByteArray), .string (⟨#[104]⟩ : ByteArray), .string (⟨#[116, 111]⟩ : ByteArray), .string (⟨#[97]⟩ : ByteArray), .string (⟨#[217, 163]⟩ : ByteArray), .string (⟨#[120]⟩ : ByteArray), .string (⟨#[9]⟩ : ByteArray), .string (⟨#[49, 47, 50, 47, 50, 48, 50, 52]⟩ : ByteArray), .string (⟨#[49, 50, 58, 51, 48]⟩ : ByteArray), .string (⟨#[51, 32, 100, 97, 121, 115, 32, 97, 103, 111]⟩ : ByteArray), .string (⟨#[53, 32, 104, 32, 51, 32, 109, 105, 110]⟩ : ByteArray)]) (ok := fun _ => True) (okp := fun _ => True) ?hr ?hp (fun _ hk => hk) trivial (Below.refl _ _) (Nat.le_refl _) (by simp) ?_; (case hd => rfl); (case hg => rfl); (case hr => first | (go_simp; done) | (go_simp; rfl)); (case hp => exact (Reps.one (show Kd.M Kd.string _ _ _ (⟨#[49]⟩ : ByteArray) [.string (⟨#[49]⟩ : ByteArray)] from rfl) (Reps.one (show Kd.M Kd.string _ _ _ (⟨#[50]⟩ : ByteArray) [.string (⟨#[50]⟩ : ByteArray)] from rfl) (Reps.one (show Kd.M Kd.string _ _ _ (⟨#[49, 50]⟩ : ByteArray) [.string (⟨#[49, 50]⟩ : ByteArray)] from rfl) (Reps.one (show Kd.M Kd.string _ _ _ (⟨#[51, 49]⟩ : ByteArray) [.string (⟨#[51, 49]⟩ : ByteArray)] from rfl) (Reps.one (show Kd.M Kd.string _ _ _ (⟨#[50, 48, 50, 52]⟩ : ByteArray) [.string (⟨#[50, 48, 50, 52]⟩ : ByteArray)] from rfl) (Reps.one (show Kd.M Kd.string _ _ _ (⟨#[57, 57]⟩ : ByteArray) [.string (⟨#[57, 57]⟩ : ByteArray)] from rfl) (Reps.one (show Kd.M Kd.string _ _ _ (⟨#[48, 53]⟩ : ByteArray) [.string (⟨#[48, 53]⟩ : ByteArray)] from rfl) (Reps.one (show Kd.M Kd.string _ _ _ (⟨#[47]⟩ : ByteArray) [.string (⟨#[47]⟩ : ByteArray)] from rfl) (Reps.one (show Kd.M Kd.string _ _ _ (⟨#[47]⟩ : ByteArray) [.string (⟨#[47]⟩ : ByteArray)] from rfl) (Reps.one (show Kd.M Kd.string _ _ _ (⟨#[45]⟩ : ByteArray) [.string (⟨#[45]⟩ : ByteArray)] from rfl) (Reps.one (show Kd.M Kd.string _ _ _ (⟨#[45]⟩ : ByteArray) [.string (⟨#[45]⟩ : ByteArray)] from rfl) (Reps.one (show Kd.M Kd.string _ _ _ (⟨#[46]⟩ : ByteArray) [.string (⟨#[46]⟩ : ByteArray)] from rfl) (Reps.one (show Kd.M Kd.string _ _ _ (⟨#[44]⟩ : ByteArray) [.string (⟨#[44]⟩ : ByteArray)] from rfl) (Reps.one (show Kd.M Kd.string _ _ _ (⟨#[58]⟩ : ByteArray) [.string (⟨#[58]⟩ : ByteArray)] from rfl) (Reps.one (show Kd.M Kd.string _ _ _ (⟨#[58]⟩ : ByteArray) [.string (⟨#[58]⟩ : ByteArray)] from rfl) (Reps.one (show Kd.M Kd.string _ _ _ (⟨#[32]⟩ : ByteArray) [.string (⟨#[32]⟩ : ByteArray)] from rfl) (Reps.one (show Kd.M Kd.string _ _ _ (⟨#[32]⟩ : ByteArray) [.string (⟨#[32]⟩ : ByteArray)] from rfl) (Reps.one (show Kd.M Kd.string _ _ _ (⟨#[109, 97, 121]⟩ : ByteArray) [.string (⟨#[109, 97, 121]⟩ : ByteArray)] from rfl) (Reps.one (show Kd.M Kd.string _ _ _ (⟨#[77, 65, 89]⟩ : ByteArray) [.string (⟨#[77, 65, 89]⟩ : ByteArray)] from rfl) (Reps.one (show Kd.M Kd.string _ _ _ (⟨#[100, 101, 99]⟩ : ByteArray) [.string (⟨#[100, 101, 99]⟩ : ByteArray)] from rfl) (Reps.one (show Kd.M Kd.string _ _ _ (⟨#[109, 111, 110, 100, 97, 121]⟩ : ByteArray) [.string (⟨#[109, 111, 110, 100, 97, 121]⟩ : ByteArray)] from rfl) (Reps.one (show Kd.M Kd.string _ _ _ (⟨#[100, 97, 121]⟩ : ByteArray) [.string (⟨#[100, 97, 121]⟩ : ByteArray)] from rfl) (Reps.one (show Kd.M Kd.string _ _ _ (⟨#[100, 97, 121, 115]⟩ : ByteArray) [.string (⟨#[100, 97, 121, 115]⟩ : ByteArray)] from rfl) (Reps.one (show Kd.M Kd.string _ _ _ (⟨#[119, 101, 101, 107]⟩ : ByteArray) [.string (⟨#[119, 101, 101, 107]⟩ : ByteArray)] from rfl) (Reps.one (show Kd.M Kd.string _ _ _ (⟨#[109, 111, 110, 116, 104, 115]⟩ : ByteArray) [.string (⟨#[109, 111, 110, 116, 104, 115]⟩ : ByteArray)] from rfl) (Reps.one (show Kd.M Kd.string _ _ _ (⟨#[97, 103, 111]⟩ : ByteArray) [.string (⟨#[97, 103, 111]⟩ : ByteArray)] from rfl) (Reps.one (show Kd.M Kd.string _ _ _ (⟨#[104, 101, 110, 99, 101]⟩ : ByteArray) [.string (⟨#[104, 101, 110, 99, 101]⟩ : ByteArray)] from rfl) (Reps.one (show Kd.M Kd.string _ _ _ (⟨#[97, 109]⟩ : ByteArray) [.string (⟨#[97, 109]⟩ : ByteArray)] from rfl) (Reps.one (show Kd.M Kd.string _ _ _ (⟨#[112, 109]⟩ : ByteArray) [.string (⟨#[112, 109]⟩ : ByteArray)] from rfl) (Reps.one (show Kd.M Kd.string _ _ _ (⟨#[101, 117, 114]⟩ : ByteArray) [.string (⟨#[101, 117, 114]⟩ : ByteArray)] from rfl) (Reps.one (show Kd.M Kd.string _ _ _ (⟨#[226, 130, 172]⟩ : ByteArray) [.string (⟨#[226, 130, 172]⟩ : ByteArray)] from rfl) (Reps.one (show Kd.M Kd.string _ _ _ (⟨#[121, 101, 110]⟩ : ByteArray) [.string (⟨#[121, 101, 110]⟩ : ByteArray)] from rfl) (Reps.one (show Kd.M Kd.string _ _ _ (⟨#[115]⟩ : ByteArray) [.string (⟨#[115]⟩ : ByteArray)] from rfl) (Reps.one (show Kd.M Kd.string _ _ _ (⟨#[109, 105, 110]⟩ : ByteArray) [.string (⟨#[109, 105, 110]⟩ : ByteArray)] from rfl) (Reps.one (show Kd.M Kd.string _ _ _ (⟨#[104]⟩ : ByteArray) [.string (⟨#[104]⟩ : ByteArray)] from rfl) (Reps.one (show Kd.M Kd.string _ _ _ (⟨#[116, 111]⟩ : ByteArray) [.string (⟨#[116, 111]⟩ : ByteArray)] from rfl) (Reps.one (show Kd.M Kd.string _ _ _ (⟨#[97]⟩ : ByteArray) [.string (⟨#[97]⟩ : ByteArray)] from rfl) (Reps.one (show Kd.M Kd.string _ _ _ (⟨#[217, 163]⟩ : ByteArray) [.string (⟨#[217, 163]⟩ : ByteArray)] from rfl) (Reps.one (show Kd.M Kd.string _ _ _ (⟨#[120]⟩ : ByteArray) [.string (⟨#[120]⟩ : ByteArray)] from rfl) (Reps.one (show Kd.M Kd.string _ _ _ (⟨#[9]⟩ : ByteArray) [.string (⟨#[9]⟩ : ByteArray)] from rfl) (Reps.one (show Kd.M Kd.string _ _ _ (⟨#[49, 47, 50, 47, 50, 48, 50, 52]⟩ : ByteArray) [.string (⟨#[49, 47, 50, 47, 50, 48, 50, 52]⟩ : ByteArray)] from rfl) (Reps.one (show Kd.M Kd.string _ _ _ (⟨#[49, 50, 58, 51, 48]⟩ : ByteArray) [.string (⟨#[49, 50, 58, 51, 48]⟩ : ByteArray)] from rfl) (Reps.one (show Kd.M Kd.string _ _ _ (⟨#[51, 32, 100, 97, 121, 115, 32, 97, 103, 111]⟩ : ByteArray) [.string (⟨#[51, 32, 100, 97, 121, 115, 32, 97, 103, 111]⟩ : ByteArray)] from rfl) (Reps.one (show Kd.M Kd.string _ _ _ (⟨#[53, 32, 104, 32, 51, 32, 109, 105, 110]⟩ : ByteArray) [.string (⟨#[53, 32, 104, 32, 51, 32, 109, 105, 110]⟩ : ByteArray)] from rfl) (Reps.none _ _)))))))))))))))))))))))))))))))))))))))))))))); intro v224 w3 ho4 hb hg_ hnew_; clear hg_ hnew_; (first | rw [← Ny223.out] at ho4 | (simp only [Int.reduceToNat] at ho4; rw [← Ny223.out] at ho4)); have n0_ := Aside0.mk (Kd.R_lower ho4 (below_size (by exact wU HB.out))); have n1_ := Aside0.mk (below_step (by exact wU HB.out) hb); clear HB; have HO225 := n0_; have HB := n1_; clear n0_ n1_; clear hb ho4))
 go_loopg [6, 7] k (fun kq v6 v7 w' => ∃ (x6_1 : ByteArray) (x7_1 : Int), v6 = .string x6_1 ∧ v7 = .int .i64 x7_1 ∧ Aside0 (interlocutorlaw6_Text.l0 kq l0 a1 y223 x6_1 x7_1 = some r) ∧ Aside0 (kq ≤ k) ∧ Aside0 (Kd.R Kd.string 9 w' w.heap.size (fun _ => True) v224 y223) ∧ Aside0 (Below w.heap.size w w'))
 case atStart => exact ⟨((⟨#[]⟩ : ByteArray)), (0), (by first | rfl | (simp; done) | (simp [*]; done)), (by first | rfl | (simp; done) | (simp [*]; done)), H', ⟨Nat.le_refl _⟩, ⟨by exact rU HO225.out⟩, ⟨by exact wU HB.out⟩⟩
 case round =>
  clear H'
  try clear c1
  try clear p2
  obtain ⟨x6_1, x7_1, rfl, rfl, HA, HK1, HO_5, HB⟩ := hrel
  cases gk with
  | zero => exact absurd HA.out (by simp [interlocutorlaw6_Text.l0])
  | succ k1 =>
   have H := HA.out
   clear HA
   simp only [interlocutorlaw6_Text.l0] at H
   have HC5 := Aside0.mk H
   clear H
   go_upto_region 4 with (fail)
   go_cut [17] (fun v17 wc => ∃ (kq : Nat) (x17_4 : Bool), v17 = .bool x17_4 ∧ Aside0 (interlocutorlaw6_Text.j1 kq l0 a1 y223 x6_1 x7_1 x17_4 = some r) ∧ Aside0 (kq ≤ k1) ∧ Aside0 (Kd.R Kd.string 9 wc w.heap.size (fun _ => True) v224 y223) ∧ Aside0 (Below w.heap.size w wc))
   case first =>
    have H := HC5.out
    clear HC5
    by_cases c6 : x7_1 < (l0.length : Int)
    ·rw [if_pos c6] at H
     have c6b0 : decide (x7_1 < (l0.length : Int)) = true := decide_eq_true c6
     clear c6
     (first | rw [c6b0] | (simp only [i64_w, i32_w]; rw [c6b0]) | skip)
     have H' := Aside0.mk H
     clear H
     go_wp2
     go_meet
     case rel => exact ⟨_, (decide (x7_1 < a1)), (by first | rfl | (simp; done) | (simp [*]; done)), H', ⟨by have := HK1.out; first | omega | exact Nat.le_refl _⟩, ⟨by exact rU HO_5.out⟩, ⟨by exact wU HB.out⟩⟩
    ·rw [if_neg c6] at H
     have c6b0 : decide (x7_1 < (l0.length : Int)) = false := decide_eq_false c6
     clear c6
     (first | rw [c6b0] | (simp only [i64_w, i32_w]; rw [c6b0]) | skip)
     have H' := Aside0.mk H
     clear H
     go_wp2
     go_meet
     case rel => exact ⟨_, (false), (by first | rfl | (simp; done) | (simp [*]; done)), H', ⟨by have := HK1.out; first | omega | exact Nat.le_refl _⟩, ⟨by exact rU HO_5.out⟩, ⟨by exact wU HB.out⟩⟩
   case rest =>
    clear HC5
    try clear c1
    try clear p2
    try clear c6
    try clear c6b0
    try clear p2
    obtain ⟨kq, x17_4, rfl, HA, HJ4, HO_5, HB⟩ := hcut
    cases kq with
    | zero => exact absurd HA.out (by simp [interlocutorlaw6_Text.j1])
    | succ kj4 =>
     have H := HA.out
     clear HA
     simp only [interlocutorlaw6_Text.j1] at H
     by_cases c7 : x17_4 = true
     ·subst c7
      have H1 : (if 0 ≤ x7_1 then (if x7_1 < (l0.length : Int) then ((interlocutorlaw6_within.f (rd l0 x7_1) (y223.length : Int)).bind fun t227 => (if 0 ≤ t227 then (if t227 < (y223.length : Int) then (if x6_1.size + (rdOf ByteArray.empty y223 t227).size ≤ 9223372036854775807 then ((interlocutorlaw6_within.f (wrap64 (Int.tdiv (rd l0 x7_1) 64)) 3).bind fun t230 => (if t230 > 0 then (if (x6_1 ++ (rdOf ByteArray.empty y223 t227)).size + 1 ≤ 9223372036854775807 then (interlocutorlaw6_Text.l0 kj4 l0 a1 y223 ((x6_1 ++ (rdOf ByteArray.empty y223 t227)) ++ (⟨#[32]⟩ : ByteArray)) (wrap64 (x7_1 + 1))) else (none)) else (interlocutorlaw6_Text.l0 kj4 l0 a1 y223 (x6_1 ++ (rdOf ByteArray.empty y223 t227)) (wrap64 (x7_1 + 1))))) else (none)) else (none)) else (none))) else (none)) else (none)) = some r := by rw [if_pos rfl] at H; exact H
      clear H
      have H := H1
      clear H1
      by_cases c8 : 0 ≤ x7_1
      ·rw [if_pos c8] at H
       have c8b0 : decide (0 ≤ x7_1) = true := decide_eq_true c8
       clear c8
       by_cases c9 : x7_1 < (l0.length : Int)
       ·rw [if_pos c9] at H
        have c9b0 : decide (x7_1 < (l0.length : Int)) = true := decide_eq_true c9
        clear c9
        replace H := Option.bind_eq_some_iff.mp H
        obtain ⟨t227, A100, H⟩ := H
        replace H : (if 0 ≤ t227 then (if t227 < (y223.length : Int) then (if x6_1.size + (rdOf ByteArray.empty y223 t227).size ≤ 9223372036854775807 then ((interlocutorlaw6_within.f (wrap64 (Int.tdiv (rd l0 x7_1) 64)) 3).bind fun t230 => (if t230 > 0 then (if (x6_1 ++ (rdOf ByteArray.empty y223 t227)).size + 1 ≤ 9223372036854775807 then (interlocutorlaw6_Text.l0 kj4 l0 a1 y223 ((x6_1 ++ (rdOf ByteArray.empty y223 t227)) ++ (⟨#[32]⟩ : ByteArray)) (wrap64 (x7_1 + 1))) else (none)) else (interlocutorlaw6_Text.l0 kj4 l0 a1 y223 (x6_1 ++ (rdOf ByteArray.empty y223 t227)) (wrap64 (x7_1 + 1))))) else (none)) else (none)) else (none)) = some r := H
        have A10 := Aside0.mk A100
        clear A100
        by_cases c11 : 0 ≤ t227
        ·rw [if_pos c11] at H
         have c11b0 : decide (0 ≤ t227) = true := decide_eq_true c11
         clear c11
         by_cases c12 : t227 < (y223.length : Int)
         ·rw [if_pos c12] at H
          have c12b0 : decide (t227 < (y223.length : Int)) = true := decide_eq_true c12
          clear c12
          by_cases c13 : x6_1.size + (rdOf ByteArray.empty y223 t227).size ≤ 9223372036854775807
          ·rw [if_pos c13] at H
           have c13b0 := eq_true c13
           have c13b1 : decide (x6_1.size + (rdOf ByteArray.empty y223 t227).size ≤ 9223372036854775807) = true := decide_eq_true c13
           try have c13b2 : (9223372036854775807 < x6_1.size + (rdOf ByteArray.empty y223 t227).size) = False := eq_false (Nat.not_lt.2 c13)
           try (have c13b3 := c13b2; simp only [ByteArray.size_append] at c13b3)
           try (have c13b4 := c13b2; simp only [ByteArray.size_append, ByteArray.size_extract, Nat.min_self] at c13b4)
           try (have c13b5 := c13b2; simp only [ByteArray.size_append, ByteArray.size_extract, Nat.min_self, size_mk_, List.size_toArray, List.length_cons, List.length_nil, Nat.zero_add, Nat.reduceAdd] at c13b5)
           replace H := Option.bind_eq_some_iff.mp H
           obtain ⟨t230, A140, H⟩ := H
           replace H : (if t230 > 0 then (if (x6_1 ++ (rdOf ByteArray.empty y223 t227)).size + 1 ≤ 9223372036854775807 then (interlocutorlaw6_Text.l0 kj4 l0 a1 y223 ((x6_1 ++ (rdOf ByteArray.empty y223 t227)) ++ (⟨#[32]⟩ : ByteArray)) (wrap64 (x7_1 + 1))) else (none)) else (interlocutorlaw6_Text.l0 kj4 l0 a1 y223 (x6_1 ++ (rdOf ByteArray.empty y223 t227)) (wrap64 (x7_1 + 1)))) = some r := H
           have A14 := Aside0.mk A140
           clear A140
           by_cases c15 : t230 > 0
           ·rw [if_pos c15] at H
            have c15b0 : decide (0 < t230) = true := decide_eq_true c15
            clear c15
            by_cases c16 : (x6_1 ++ (rdOf ByteArray.empty y223 t227)).size + 1 ≤ 9223372036854775807
            ·rw [if_pos c16] at H
             have c16b0 := eq_true c16
             have c16b1 : decide ((x6_1 ++ (rdOf ByteArray.empty y223 t227)).size + 1 ≤ 9223372036854775807) = true := decide_eq_true c16
             try have c16b2 : (9223372036854775807 < (x6_1 ++ (rdOf ByteArray.empty y223 t227)).size + 1) = False := eq_false (Nat.not_lt.2 c16)
             try (have c16b3 := c16b2; simp only [ByteArray.size_append] at c16b3)
             try (have c16b4 := c16b2; simp only [ByteArray.size_append, ByteArray.size_extract, Nat.min_self] at c16b4)
             try (have c16b5 := c16b2; simp only [ByteArray.size_append, ByteArray.size_extract, Nat.min_self, size_mk_, List.size_toArray, List.length_cons, List.length_nil, Nat.zero_add, Nat.reduceAdd] at c16b5)
             have H' := Aside0.mk H
             clear H
             have p226 : 0 ≤ (x7_1 : Int) := of_decide_eq_true (by first | (with_reducible assumption) | assumption)
             have q226 : x7_1 < (l0.length : Int) := of_decide_eq_true (by first | (with_reducible assumption) | assumption)
             obtain ⟨ad226, e226, hx226_0⟩ := Kd.at_int HR0.out x7_1 p226 q226
             cases e226
             replace hx226_0 := (HB.out.cell (World.block_lt_of_cell? w _ hx226_0)).trans hx226_0
             replace p226 := eq_true p226
             replace q226 := eq_true q226
             obtain ⟨Ao17, co17, eo17⟩ := Kd.R_slice HO_5.out
             subst eo17
             go_wp2_with (first | ((with_reducible refine gate_callee (f := 27) rfl ?_); refine goesL_ (some 28) rfl rfl Try.func27 (by kernel_rfl) rfl #[.int .i64 (rd l0 x7_1), .int .i64 (y223.length : Int)] rfl (by (try simp only [List.map_toArray, List.map_cons, List.map_nil]); first | done | rfl | (simp only [List.length_drop, List.length_take]; rfl)) ?_; (with_reducible refine (interlocutorlaw6_within.calls (rd l0 x7_1) (y223.length : Int) t227 _ A10.out).mono ?_); rintro e w' ⟨rfl, ⟨nd, rfl⟩⟩; refine ⟨_, rfl, ?_⟩; have p228 : 0 ≤ (t227 : Int) := of_decide_eq_true (by first | (with_reducible assumption) | assumption); have q228 : t227 < (y223.length : Int) := of_decide_eq_true (by first | (with_reducible assumption) | assumption); obtain ⟨ad228, e228, hx228_0⟩ := Kd.at_string (Kd.R_reads' HO_5.out).2.2 t227 p228 q228; cases e228; replace p228 := eq_true p228; replace q228 := eq_true q228; have p229 : 0 ≤ (x7_1 : Int) := of_decide_eq_true (by first | (with_reducible assumption) | assumption); have q229 : x7_1 < (l0.length : Int) := of_decide_eq_true (by first | (with_reducible assumption) | assumption); obtain ⟨ad229, e229, hx229_0⟩ := Kd.at_int HR0.out x7_1 p229 q229; obtain rfl : ad226 = ad229 := (by injection e229); replace hx229_0 := (HB.out.cell (World.block_lt_of_cell? w _ hx229_0)).trans hx229_0; replace p229 := eq_true p229; replace q229 := eq_true q229) | ((with_reducible refine gate_callee (f := 27) rfl ?_); refine goesL_ (some 37) rfl rfl Try.func27 (by kernel_rfl) rfl #[.int .i64 (wrap64 (Int.tdiv (rd l0 x7_1) 64)), .int .i64 3] rfl (by (try simp only [List.map_toArray, List.map_cons, List.map_nil]); first | done | rfl | (simp only [List.length_drop, List.length_take]; rfl)) ?_; (with_reducible refine (interlocutorlaw6_within.calls (wrap64 (Int.tdiv (rd l0 x7_1) 64)) 3 t230 _ A14.out).mono ?_); rintro e w' ⟨rfl, ⟨nd, rfl⟩⟩; refine ⟨_, rfl, ?_⟩))
             go_roundg kj4
             case measure => have := HK1.out; have := HJ4.out; omega
             case rel => exact ⟨((x6_1 ++ (rdOf ByteArray.empty y223 t227)) ++ (⟨#[32]⟩ : ByteArray)), (wrap64 (x7_1 + 1)), (by first | rfl | (simp; done) | (simp [*]; done)), (by first | rfl | (simp; done) | (simp [*]; done)), H', ⟨by have := HK1.out; have := HJ4.out; omega⟩, ⟨by exact rU HO_5.out⟩, ⟨by exact wU HB.out⟩⟩
            ·rw [if_neg c16] at H
             exact absurd H (by simp)
           ·rw [if_neg c15] at H
            have c15b0 : decide (0 < t230) = false := decide_eq_false c15
            clear c15
            have H' := Aside0.mk H
            clear H
            have p226 : 0 ≤ (x7_1 : Int) := of_decide_eq_true (by first | (with_reducible assumption) | assumption)
            have q226 : x7_1 < (l0.length : Int) := of_decide_eq_true (by first | (with_reducible assumption) | assumption)
            obtain ⟨ad226, e226, hx226_0⟩ := Kd.at_int HR0.out x7_1 p226 q226
            cases e226
            replace hx226_0 := (HB.out.cell (World.block_lt_of_cell? w _ hx226_0)).trans hx226_0
            replace p226 := eq_true p226
            replace q226 := eq_true q226
            obtain ⟨Ao18, co18, eo18⟩ := Kd.R_slice HO_5.out
            subst eo18
            go_wp2_with (first | ((with_reducible refine gate_callee (f := 27) rfl ?_); refine goesL_ (some 28) rfl rfl Try.func27 (by kernel_rfl) rfl #[.int .i64 (rd l0 x7_1), .int .i64 (y223.length : Int)] rfl (by (try simp only [List.map_toArray, List.map_cons, List.map_nil]); first | done | rfl | (simp only [List.length_drop, List.length_take]; rfl)) ?_; (with_reducible refine (interlocutorlaw6_within.calls (rd l0 x7_1) (y223.length : Int) t227 _ A10.out).mono ?_); rintro e w' ⟨rfl, ⟨nd, rfl⟩⟩; refine ⟨_, rfl, ?_⟩; have p228 : 0 ≤ (t227 : Int) := of_decide_eq_true (by first | (with_reducible assumption) | assumption); have q228 : t227 < (y223.length : Int) := of_decide_eq_true (by first | (with_reducible assumption) | assumption); obtain ⟨ad228, e228, hx228_0⟩ := Kd.at_string (Kd.R_reads' HO_5.out).2.2 t227 p228 q228; cases e228; replace p228 := eq_true p228; replace q228 := eq_true q228; have p229 : 0 ≤ (x7_1 : Int) := of_decide_eq_true (by first | (with_reducible assumption) | assumption); have q229 : x7_1 < (l0.length : Int) := of_decide_eq_true (by first | (with_reducible assumption) | assumption); obtain ⟨ad229, e229, hx229_0⟩ := Kd.at_int HR0.out x7_1 p229 q229; obtain rfl : ad226 = ad229 := (by injection e229); replace hx229_0 := (HB.out.cell (World.block_lt_of_cell? w _ hx229_0)).trans hx229_0; replace p229 := eq_true p229; replace q229 := eq_true q229) | ((with_reducible refine gate_callee (f := 27) rfl ?_); refine goesL_ (some 37) rfl rfl Try.func27 (by kernel_rfl) rfl #[.int .i64 (wrap64 (Int.tdiv (rd l0 x7_1) 64)), .int .i64 3] rfl (by (try simp only [List.map_toArray, List.map_cons, List.map_nil]); first | done | rfl | (simp only [List.length_drop, List.length_take]; rfl)) ?_; (with_reducible refine (interlocutorlaw6_within.calls (wrap64 (Int.tdiv (rd l0 x7_1) 64)) 3 t230 _ A14.out).mono ?_); rintro e w' ⟨rfl, ⟨nd, rfl⟩⟩; refine ⟨_, rfl, ?_⟩))
            go_roundg kj4
            case measure => have := HK1.out; have := HJ4.out; omega
            case rel => exact ⟨(x6_1 ++ (rdOf ByteArray.empty y223 t227)), (wrap64 (x7_1 + 1)), (by first | rfl | (simp; done) | (simp [*]; done)), (by first | rfl | (simp; done) | (simp [*]; done)), H', ⟨by have := HK1.out; have := HJ4.out; omega⟩, ⟨by exact rU HO_5.out⟩, ⟨by exact wU HB.out⟩⟩
          ·rw [if_neg c13] at H
           exact absurd H (by simp)
         ·rw [if_neg c12] at H
          exact absurd H (by simp)
        ·rw [if_neg c11] at H
         exact absurd H (by simp)
       ·rw [if_neg c9] at H
        exact absurd H (by simp)
      ·rw [if_neg c8] at H
       exact absurd H (by simp)
     ·replace c7 := Bool.eq_false_iff.mpr c7
      subst c7
      have H1 : (some x6_1) = some r := by rw [if_neg (show ¬ (false = true) by decide)] at H; exact H
      clear H
      have H := H1
      clear H1
      obtain rfl := Option.some.inj H
      go_wp2
      go_ret
      exact ⟨by first | rfl | (simp [errW_none, errW_some] <;> rfl) | (simp [*, errW_none, errW_some] <;> rfl), by exact wU HB.out⟩
end Go.Proofs.Ytgbnfjhmobeloaa.G
