import Derived.Test.YtjijikgandkphaaDoorGx0
import Derived.Test.YtjijikgandkphaaDoorGx9
import Derived.Test.YtjijikgandkphaaDoorGx22
namespace Go.Proofs.YtjijikgandkphaaDoor.G
open Go.RowKit Go.Proofs.YtjijikgandkphaaDoorW.PrintWords Go.Proofs.YtjijikgandkphaaDoorW.PrintLast Go.Proofs.YtjijikgandkphaaDoorW.PrintMore Go.Proofs.YtjijikgandkphaaDoorW.VWords Go.Proofs.YtjijikgandkphaaDoorW.Tab
attribute [local go_sem] max2_int min2_int max_two min_two max_three min_three max_four min_four
set_option linter.unusedVariables false
set_option linter.unusedSimpArgs false
def knLex : List S24 := [⟨(⟨#[109, 97, 121]⟩ : ByteArray), 1, 5⟩, ⟨(⟨#[101, 117, 114]⟩ : ByteArray), 6, 9782⟩]
def knP0 : List S27 := [(⟨1, (⟨#[]⟩ : ByteArray), 0, 0, 0⟩ : S27), (⟨0, (⟨#[46]⟩ : ByteArray), 0, 0, 0⟩ : S27), (⟨1, (⟨#[]⟩ : ByteArray), 1, 2, 0⟩ : S27)]
def knP1 : List S27 := [(⟨1, (⟨#[]⟩ : ByteArray), 1, 0, 0⟩ : S27), (⟨0, (⟨#[44]⟩ : ByteArray), 0, 0, 0⟩ : S27), (⟨1, (⟨#[]⟩ : ByteArray), 2, 5, 0⟩ : S27), (⟨0, (⟨#[32]⟩ : ByteArray), 0, 0, 0⟩ : S27), (⟨2, (⟨#[]⟩ : ByteArray), 0, 0, 6⟩ : S27)]
def knP2 : List S27 := [(⟨1, (⟨#[]⟩ : ByteArray), 1, 2, 0⟩ : S27), (⟨0, (⟨#[58]⟩ : ByteArray), 0, 0, 0⟩ : S27), (⟨1, (⟨#[]⟩ : ByteArray), 2, 2, 0⟩ : S27), (⟨0, (⟨#[58]⟩ : ByteArray), 0, 0, 0⟩ : S27), (⟨1, (⟨#[]⟩ : ByteArray), 3, 2, 0⟩ : S27)]
def knP3 : List S27 := [(⟨1, (⟨#[]⟩ : ByteArray), 2, 1, 0⟩ : S27), (⟨0, (⟨#[46, 32]⟩ : ByteArray), 0, 0, 0⟩ : S27), (⟨2, (⟨#[]⟩ : ByteArray), 1, 0, 1⟩ : S27), (⟨0, (⟨#[32]⟩ : ByteArray), 0, 0, 0⟩ : S27), (⟨1, (⟨#[]⟩ : ByteArray), 0, 4, 0⟩ : S27)]
def knSty : List S31 := [⟨7, knP0⟩, ⟨8, knP1⟩, ⟨9, knP2⟩, ⟨4, knP3⟩]
def knVal : List S38 := [⟨7, [-5, 1]⟩, ⟨7, [12, 0]⟩, ⟨7, [-12345, 3]⟩, ⟨8, [9782, -5]⟩, ⟨8, [9782, 123456]⟩, ⟨8, [3920, 7]⟩, ⟨9, [3725]⟩, ⟨9, [359999]⟩, ⟨4, [33, 5, 1]⟩, ⟨4, [33, 6, 1]⟩]
def knK : List Int := [0, 0, 0, 1, 1, 1, 2, 2, 3, 3]
def knW : List ByteArray := [(⟨#[45, 48, 46, 53, 48]⟩ : ByteArray), (⟨#[49, 50, 46, 48, 48]⟩ : ByteArray), (⟨#[45, 49, 50, 46, 51, 52, 53]⟩ : ByteArray), (⟨#[45, 48, 44, 48, 53, 32, 101, 117, 114]⟩ : ByteArray), (⟨#[49, 50, 51, 52, 44, 53, 54, 32, 101, 117, 114]⟩ : ByteArray), (⟨#[63]⟩ : ByteArray), (⟨#[48, 49, 58, 48, 50, 58, 48, 53]⟩ : ByteArray), (⟨#[57, 57, 58, 53, 57, 58, 53, 57]⟩ : ByteArray), (⟨#[49, 46, 32, 109, 97, 121, 32, 48, 48, 51, 51]⟩ : ByteArray), (⟨#[63]⟩ : ByteArray)]
def knOk (t : ByteArray) (b : ByteArray × Int) : Bool := if t.toList == [63] then b.2 == 7 && b.1.toList == [] else b.2 == 0 && b.1.toList == t.toList
def interlocutorlaw11_RenderKnown.f (k : Nat) (a0 : Int) : Option Bool :=
 (interlocutorlaw11_known.f k).bind fun t => if t = true then (interlocutorlaw11_within.f a0 10).bind fun i => if 0 ≤ i ∧ i < 10 then (render_Write.f k ⟨#[]⟩ 0 0 knLex [] knSty (rd knK i) (rd_T38 knVal i).f0 (rd_T38 knVal i).f1).bind fun b => if knOk (rdOf ByteArray.empty knW i) b = true then some true else none else none else none
structure HeldR (F : World → Prop) (W : World) : Prop where
 mono : ∀ W1 W2, Below W1.heap.size W1 W2 → F W1 → F W2
 now : F W
theorem HeldR.step {F : World → Prop} {W W' : World} (h : HeldR F W) (hb : Below W.heap.size W W') : HeldR F W' := ⟨h.mono, h.mono _ _ hb h.now⟩
theorem HeldR.add {F : World → Prop} {W W' : World} (h : HeldR F W) (hb : Below W.heap.size W W') {α : Type} {d : Kd α} {A : Option Addr} {n : Nat} {xs : List α} (hc : Kd.C d W' A n xs) : HeldR (fun W => F W ∧ Kd.C d W A n xs) W' := ⟨fun W1 W2 b h1 => ⟨h.mono _ _ b h1.1, Kd.C_below h1.2 b⟩, h.mono _ _ hb h.now, hc⟩
theorem C_lit {P : Program} {ops : Array Oper} {rest : List Oper} {o : Oper} {a : Act} {W : World} {Q : Exit → Act → World → Prop} {α : Type} (d : Kd α) (e : Nat) (hgd : o.guard = none) {N : Tmp} (hd : o.dst = some N) {xs : List α} {inner : List Value}
  (hrun : (execOp a.eval o).run P W = .ok (.value (.slice (some ⟨W.heap.size, 0, none⟩) xs.length xs.length)) (W.alloc (.cells inner.toArray e)))
  (hrep : Reps (d.K W) d.sz xs inner) (hm : xs.length ≤ 9223372036854775807)
  (h : ∀ ad w1, Kd.C d w1 (some ad) xs.length xs → Below W.heap.size W w1 → wpList P ops Q rest (a.put o.dst (.slice (some ad) xs.length xs.length)) w1) : wpList P ops Q (o :: rest) a W := by
 have hb : Below W.heap.size W (W.alloc (.cells inner.toArray e)) := below_alloc (Below.refl _ _) _
 refine Kd.event_run hgd hrun (h _ _ ?_ hb)
 have h2 := World.ownsRow_lit (base := W.heap.size) (e := e) (size := d.sz) W inner.toArray xs.length (Nat.le_refl _) (by simpa [maxLen] using hm) (by simpa using hrep.1)
 obtain ⟨A, c, e1, h3⟩ := own_reads_row h2 (by simpa using hrep.imp_ (fun p c hp => d.K_below hb hp)) rfl
 injection e1 with e2 e3 e4
 rw [e2]
 exact h3
abbrev kset6 (w : World) (g : Nat) (a b c d e f : Value) : World := (((((w.setCell ⟨g, 0, none⟩ a).setCell ⟨g, 1, none⟩ b).setCell ⟨g, 2, none⟩ c).setCell ⟨g, 3, none⟩ d).setCell ⟨g, 4, none⟩ e).setCell ⟨g, 5, none⟩ f
theorem kset6_blk {w : World} {g t : Nat} {x0 x1 x2 x3 x4 x5 : Value} (h : w.heap[g]? = some (.cells #[x0, x1, x2, x3, x4, x5] t (0, 0))) (v0 v1 v2 v3 v4 v5 : Value) : (kset6 w g v0 v1 v2 v3 v4 v5).heap[g]? = some (.cells #[v0, v1, v2, v3, v4, v5] t (0, 0)) :=
 blk_set (blk_set (blk_set (blk_set (blk_set (blk_set h 0 v0) 1 v1) 2 v2) 3 v3) 4 v4) 5 v5
theorem kset6_below {w W : World} {g : Nat} (h : Below w.heap.size w W) (n : w.heap.size ≤ g) (v0 v1 v2 v3 v4 v5 : Value) : Below w.heap.size w (kset6 W g v0 v1 v2 v3 v4 v5) := below_set (below_set (below_set (below_set (below_set (below_set h n) n) n) n) n) n
theorem part11_any (f p : Int) (w : World) : Calls Tryd.prog 8 #[.int .i64 f, .int .i64 p] w fun e w' => e = .returned (.agg #[.int .i64 1, .string (⟨#[]⟩ : ByteArray), .int .i64 f, .int .i64 p, .int .i64 0]) ∧ Below w.heap.size w w' := interlocutorlaw11_part.calls f p 1 ⟨#[]⟩ f p 0 w rfl
set_option maxHeartbeats 16000000 in
set_option maxRecDepth 100000 in
theorem known11_walk (k : Nat) (a0 i : Int) (b : ByteArray × Int) (w : World) (h0 : interlocutorlaw11_known.f k = some true) (h1 : interlocutorlaw11_within.f a0 10 = some i) (p0 : 0 ≤ i) (q0 : i < 10) (h2 : render_Write.f k ⟨#[]⟩ 0 0 knLex [] knSty (rd knK i) (rd_T38 knVal i).f0 (rd_T38 knVal i).f1 = some b) (h3 : knOk (rdOf ByteArray.empty knW i) b = true) (hT_ : TabOK w) :
  Calls Tryd.prog 3 #[.int .i64 a0] w fun e w' => e = .returned (.bool true) ∧ Below w.heap.size w w' := by
 have hu35 := Tryd.underlying35
 have hu38 := Tryd.underlying38
 have hu36 := Tryd.underlying36
 have hu39 := Tryd.underlying39
 have hu40 := Tryd.underlying40
 have H0 := Aside0.mk h0
 have H1 := Aside0.mk (show interlocutorlaw11_within.f a0 (knVal.length : Int) = some i from h1)
 have H2 := Aside0.mk h2
 have H3 := Aside0.mk h3
 have HT := Aside0.mk hT_
 have HD := Aside0.mk (Below.refl w.heap.size w)
 have HF := Aside0.mk (show HeldR (fun _ => True) w from ⟨fun _ _ _ _ => trivial, trivial⟩)
 clear h0 h1 h2 h3 hT_
 go_enter Tryd.func3, Tryd.ntmps3
 go_wp2_with (first
  | (go_at_call 7; (with_reducible refine (interlocutorlaw11_known.calls k true _ H0.out (tab_below HT.out HD.out)).mono ?_); rintro e wk ⟨rfl, hb⟩; replace HF := Aside0.mk (HF.out.step hb); replace HD := Aside0.mk (below_step HD.out hb); clear hb)
  | ((with_reducible refine gate_dst (N := 14) rfl ?_); refine C_lit k24 24 ?hg (N := 14) ?hd (xs := knLex) (inner := [.string (⟨#[109, 97, 121]⟩ : ByteArray), .int .i64 1, .int .i64 5, .string (⟨#[101, 117, 114]⟩ : ByteArray), .int .i64 6, .int .i64 9782]) ?hr ?hp (by decide) ?_; (case hd => rfl); (case hg => rfl); (case hr => first | (go_simp; done) | (go_simp; rfl)); (case hp => exact (Reps.c3 (k24_mk _ (⟨(⟨#[109, 97, 121]⟩ : ByteArray), 1, 5⟩ : S24)) (Reps.c3 (k24_mk _ (⟨(⟨#[101, 117, 114]⟩ : ByteArray), 6, 9782⟩ : S24)) (Reps.none _ _)))); intro a14 w14 hc hb; replace HF := Aside0.mk (HF.out.add hb hc); replace HD := Aside0.mk (below_step HD.out hb); clear hb hc)
  | ((with_reducible refine gate_callee (f := 8) rfl ?_); refine goesL_ (some 15) rfl rfl Tryd.func8 (by kernel_rfl) rfl #[.int .i64 0, .int .i64 0] rfl (by (try simp only [List.map_toArray, List.map_cons, List.map_nil]); first | done | rfl) ?_; (with_reducible refine (part11_any 0 0 _).mono ?_); rintro e w15 ⟨rfl, hb⟩; refine ⟨_, rfl, ?_⟩; replace HF := Aside0.mk (HF.out.step hb); replace HD := Aside0.mk (below_step HD.out hb); clear hb)
  | ((with_reducible refine gate_callee (f := 8) rfl ?_); refine goesL_ (some 17) rfl rfl Tryd.func8 (by kernel_rfl) rfl #[.int .i64 1, .int .i64 2] rfl (by (try simp only [List.map_toArray, List.map_cons, List.map_nil]); first | done | rfl) ?_; (with_reducible refine (part11_any 1 2 _).mono ?_); rintro e w17 ⟨rfl, hb⟩; refine ⟨_, rfl, ?_⟩; replace HF := Aside0.mk (HF.out.step hb); replace HD := Aside0.mk (below_step HD.out hb); clear hb)
  | ((with_reducible refine gate_dst (N := 18) rfl ?_); refine C_lit k27 27 ?hg (N := 18) ?hd (xs := knP0) (inner := [.int .i64 1, .string (⟨#[]⟩ : ByteArray), .int .i64 0, .int .i64 0, .int .i64 0, .int .i64 0, .string (⟨#[46]⟩ : ByteArray), .int .i64 0, .int .i64 0, .int .i64 0, .int .i64 1, .string (⟨#[]⟩ : ByteArray), .int .i64 1, .int .i64 2, .int .i64 0]) ?hr ?hp (by decide) ?_; (case hd => rfl); (case hg => rfl); (case hr => first | (go_simp; done) | (go_simp; rfl)); (case hp => exact (Reps.c5 (k27_mk _ (⟨1, (⟨#[]⟩ : ByteArray), 0, 0, 0⟩ : S27)) (Reps.c5 (k27_mk _ (⟨0, (⟨#[46]⟩ : ByteArray), 0, 0, 0⟩ : S27)) (Reps.c5 (k27_mk _ (⟨1, (⟨#[]⟩ : ByteArray), 1, 2, 0⟩ : S27)) (Reps.none _ _))))); intro a18 w18 hc hb; replace HF := Aside0.mk (HF.out.add hb hc); replace HD := Aside0.mk (below_step HD.out hb); clear hb hc)
  | ((with_reducible refine gate_callee (f := 8) rfl ?_); refine goesL_ (some 20) rfl rfl Tryd.func8 (by kernel_rfl) rfl #[.int .i64 1, .int .i64 0] rfl (by (try simp only [List.map_toArray, List.map_cons, List.map_nil]); first | done | rfl) ?_; (with_reducible refine (part11_any 1 0 _).mono ?_); rintro e w20 ⟨rfl, hb⟩; refine ⟨_, rfl, ?_⟩; replace HF := Aside0.mk (HF.out.step hb); replace HD := Aside0.mk (below_step HD.out hb); clear hb)
  | ((with_reducible refine gate_callee (f := 8) rfl ?_); refine goesL_ (some 22) rfl rfl Tryd.func8 (by kernel_rfl) rfl #[.int .i64 2, .int .i64 5] rfl (by (try simp only [List.map_toArray, List.map_cons, List.map_nil]); first | done | rfl) ?_; (with_reducible refine (part11_any 2 5 _).mono ?_); rintro e w22 ⟨rfl, hb⟩; refine ⟨_, rfl, ?_⟩; replace HF := Aside0.mk (HF.out.step hb); replace HD := Aside0.mk (below_step HD.out hb); clear hb)
  | ((with_reducible refine gate_dst (N := 25) rfl ?_); refine C_lit k27 27 ?hg (N := 25) ?hd (xs := knP1) (inner := [.int .i64 1, .string (⟨#[]⟩ : ByteArray), .int .i64 1, .int .i64 0, .int .i64 0, .int .i64 0, .string (⟨#[44]⟩ : ByteArray), .int .i64 0, .int .i64 0, .int .i64 0, .int .i64 1, .string (⟨#[]⟩ : ByteArray), .int .i64 2, .int .i64 5, .int .i64 0, .int .i64 0, .string (⟨#[32]⟩ : ByteArray), .int .i64 0, .int .i64 0, .int .i64 0, .int .i64 2, .string (⟨#[]⟩ : ByteArray), .int .i64 0, .int .i64 0, .int .i64 6]) ?hr ?hp (by decide) ?_; (case hd => rfl); (case hg => rfl); (case hr => first | (go_simp; done) | (go_simp; rfl)); (case hp => exact (Reps.c5 (k27_mk _ (⟨1, (⟨#[]⟩ : ByteArray), 1, 0, 0⟩ : S27)) (Reps.c5 (k27_mk _ (⟨0, (⟨#[44]⟩ : ByteArray), 0, 0, 0⟩ : S27)) (Reps.c5 (k27_mk _ (⟨1, (⟨#[]⟩ : ByteArray), 2, 5, 0⟩ : S27)) (Reps.c5 (k27_mk _ (⟨0, (⟨#[32]⟩ : ByteArray), 0, 0, 0⟩ : S27)) (Reps.c5 (k27_mk _ (⟨2, (⟨#[]⟩ : ByteArray), 0, 0, 6⟩ : S27)) (Reps.none _ _))))))); intro a25 w25 hc hb; replace HF := Aside0.mk (HF.out.add hb hc); replace HD := Aside0.mk (below_step HD.out hb); clear hb hc)
  | ((with_reducible refine gate_callee (f := 8) rfl ?_); refine goesL_ (some 27) rfl rfl Tryd.func8 (by kernel_rfl) rfl #[.int .i64 1, .int .i64 2] rfl (by (try simp only [List.map_toArray, List.map_cons, List.map_nil]); first | done | rfl) ?_; (with_reducible refine (part11_any 1 2 _).mono ?_); rintro e w27 ⟨rfl, hb⟩; refine ⟨_, rfl, ?_⟩; replace HF := Aside0.mk (HF.out.step hb); replace HD := Aside0.mk (below_step HD.out hb); clear hb)
  | ((with_reducible refine gate_callee (f := 8) rfl ?_); refine goesL_ (some 29) rfl rfl Tryd.func8 (by kernel_rfl) rfl #[.int .i64 2, .int .i64 2] rfl (by (try simp only [List.map_toArray, List.map_cons, List.map_nil]); first | done | rfl) ?_; (with_reducible refine (part11_any 2 2 _).mono ?_); rintro e w29 ⟨rfl, hb⟩; refine ⟨_, rfl, ?_⟩; replace HF := Aside0.mk (HF.out.step hb); replace HD := Aside0.mk (below_step HD.out hb); clear hb)
  | ((with_reducible refine gate_callee (f := 8) rfl ?_); refine goesL_ (some 31) rfl rfl Tryd.func8 (by kernel_rfl) rfl #[.int .i64 3, .int .i64 2] rfl (by (try simp only [List.map_toArray, List.map_cons, List.map_nil]); first | done | rfl) ?_; (with_reducible refine (part11_any 3 2 _).mono ?_); rintro e w31 ⟨rfl, hb⟩; refine ⟨_, rfl, ?_⟩; replace HF := Aside0.mk (HF.out.step hb); replace HD := Aside0.mk (below_step HD.out hb); clear hb)
  | ((with_reducible refine gate_dst (N := 32) rfl ?_); refine C_lit k27 27 ?hg (N := 32) ?hd (xs := knP2) (inner := [.int .i64 1, .string (⟨#[]⟩ : ByteArray), .int .i64 1, .int .i64 2, .int .i64 0, .int .i64 0, .string (⟨#[58]⟩ : ByteArray), .int .i64 0, .int .i64 0, .int .i64 0, .int .i64 1, .string (⟨#[]⟩ : ByteArray), .int .i64 2, .int .i64 2, .int .i64 0, .int .i64 0, .string (⟨#[58]⟩ : ByteArray), .int .i64 0, .int .i64 0, .int .i64 0, .int .i64 1, .string (⟨#[]⟩ : ByteArray), .int .i64 3, .int .i64 2, .int .i64 0]) ?hr ?hp (by decide) ?_; (case hd => rfl); (case hg => rfl); (case hr => first | (go_simp; done) | (go_simp; rfl)); (case hp => exact (Reps.c5 (k27_mk _ (⟨1, (⟨#[]⟩ : ByteArray), 1, 2, 0⟩ : S27)) (Reps.c5 (k27_mk _ (⟨0, (⟨#[58]⟩ : ByteArray), 0, 0, 0⟩ : S27)) (Reps.c5 (k27_mk _ (⟨1, (⟨#[]⟩ : ByteArray), 2, 2, 0⟩ : S27)) (Reps.c5 (k27_mk _ (⟨0, (⟨#[58]⟩ : ByteArray), 0, 0, 0⟩ : S27)) (Reps.c5 (k27_mk _ (⟨1, (⟨#[]⟩ : ByteArray), 3, 2, 0⟩ : S27)) (Reps.none _ _))))))); intro a32 w32 hc hb; replace HF := Aside0.mk (HF.out.add hb hc); replace HD := Aside0.mk (below_step HD.out hb); clear hb hc)
  | ((with_reducible refine gate_callee (f := 8) rfl ?_); refine goesL_ (some 34) rfl rfl Tryd.func8 (by kernel_rfl) rfl #[.int .i64 2, .int .i64 1] rfl (by (try simp only [List.map_toArray, List.map_cons, List.map_nil]); first | done | rfl) ?_; (with_reducible refine (part11_any 2 1 _).mono ?_); rintro e w34 ⟨rfl, hb⟩; refine ⟨_, rfl, ?_⟩; replace HF := Aside0.mk (HF.out.step hb); replace HD := Aside0.mk (below_step HD.out hb); clear hb)
  | ((with_reducible refine gate_callee (f := 8) rfl ?_); refine goesL_ (some 38) rfl rfl Tryd.func8 (by kernel_rfl) rfl #[.int .i64 0, .int .i64 4] rfl (by (try simp only [List.map_toArray, List.map_cons, List.map_nil]); first | done | rfl) ?_; (with_reducible refine (part11_any 0 4 _).mono ?_); rintro e w38 ⟨rfl, hb⟩; refine ⟨_, rfl, ?_⟩; replace HF := Aside0.mk (HF.out.step hb); replace HD := Aside0.mk (below_step HD.out hb); clear hb)
  | ((with_reducible refine gate_dst (N := 39) rfl ?_); refine C_lit k27 27 ?hg (N := 39) ?hd (xs := knP3) (inner := [.int .i64 1, .string (⟨#[]⟩ : ByteArray), .int .i64 2, .int .i64 1, .int .i64 0, .int .i64 0, .string (⟨#[46, 32]⟩ : ByteArray), .int .i64 0, .int .i64 0, .int .i64 0, .int .i64 2, .string (⟨#[]⟩ : ByteArray), .int .i64 1, .int .i64 0, .int .i64 1, .int .i64 0, .string (⟨#[32]⟩ : ByteArray), .int .i64 0, .int .i64 0, .int .i64 0, .int .i64 1, .string (⟨#[]⟩ : ByteArray), .int .i64 0, .int .i64 4, .int .i64 0]) ?hr ?hp (by decide) ?_; (case hd => rfl); (case hg => rfl); (case hr => first | (go_simp; done) | (go_simp; rfl)); (case hp => exact (Reps.c5 (k27_mk _ (⟨1, (⟨#[]⟩ : ByteArray), 2, 1, 0⟩ : S27)) (Reps.c5 (k27_mk _ (⟨0, (⟨#[46, 32]⟩ : ByteArray), 0, 0, 0⟩ : S27)) (Reps.c5 (k27_mk _ (⟨2, (⟨#[]⟩ : ByteArray), 1, 0, 1⟩ : S27)) (Reps.c5 (k27_mk _ (⟨0, (⟨#[32]⟩ : ByteArray), 0, 0, 0⟩ : S27)) (Reps.c5 (k27_mk _ (⟨1, (⟨#[]⟩ : ByteArray), 0, 4, 0⟩ : S27)) (Reps.none _ _))))))); intro a39 w39 hc hb; replace HF := Aside0.mk (HF.out.add hb hc); replace HD := Aside0.mk (below_step HD.out hb); clear hb hc)
  | ((with_reducible refine gate_dst (N := 41) rfl ?_); refine C_lit k31 31 ?hg (N := 41) ?hd (xs := knSty) (inner := [.int .i64 7, .slice (some a18) knP0.length knP0.length, .int .i64 8, .slice (some a25) knP1.length knP1.length, .int .i64 9, .slice (some a32) knP2.length knP2.length, .int .i64 4, .slice (some a39) knP3.length knP3.length]) ?hr ?hp (by decide) ?_; (case hd => rfl); (case hg => rfl); (case hr => first | (go_simp; done) | (go_simp; rfl)); (case hp => exact (Reps.c2 (k31_mk _ (⟨7, knP0⟩ : S31) (Nat.le_refl _) (HF.out.now.1.1.1.2)) (Reps.c2 (k31_mk _ (⟨8, knP1⟩ : S31) (Nat.le_refl _) (HF.out.now.1.1.2)) (Reps.c2 (k31_mk _ (⟨9, knP2⟩ : S31) (Nat.le_refl _) (HF.out.now.1.2)) (Reps.c2 (k31_mk _ (⟨4, knP3⟩ : S31) (Nat.le_refl _) (HF.out.now.2)) (Reps.none _ _)))))); intro a41 w41 hc hb; replace HF := Aside0.mk (HF.out.add hb hc); replace HD := Aside0.mk (below_step HD.out hb); clear hb hc)
  | ((with_reducible refine gate_dst (N := 3) rfl ?_); refine box_event ?hg (N := 3) ?hd (cs := #[.string (⟨#[]⟩ : ByteArray), .int .i64 0, .int .i64 0, .slice none 0 0, .slice none 0 0, .slice none 0 0]) (t := 35) ?hr ?_; (case hd => rfl); (case hg => rfl); (case hr => first | (go_simp; done) | (go_simp; rfl)); intro g3 hg3 wb hbox hb; have K3 := Aside0.mk hbox; have NG := Aside0.mk (show w.heap.size ≤ g3 by rw [hg3]; exact below_size HD.out); have NF := Aside0.mk (Nat.le_of_eq hg3.symm); have WB := Aside0.mk hb; replace HD := Aside0.mk (below_step HD.out hb); clear hbox hg3 hb; have y0 : wb.cell? ⟨g3, 0, none⟩ = some (.string (⟨#[]⟩ : ByteArray)) := (blk_cell K3.out 0).trans rfl; have f0 := blk_frozen K3.out 0; have y1 : wb.cell? ⟨g3, 1, none⟩ = some (.int .i64 0) := (blk_cell K3.out 1).trans rfl; have f1 := blk_frozen K3.out 1; have y2 : wb.cell? ⟨g3, 2, none⟩ = some (.int .i64 0) := (blk_cell K3.out 2).trans rfl; have f2 := blk_frozen K3.out 2; have y3 : wb.cell? ⟨g3, 3, none⟩ = some (.slice none 0 0) := (blk_cell K3.out 3).trans rfl; have f3 := blk_frozen K3.out 3; have y4 : wb.cell? ⟨g3, 4, none⟩ = some (.slice none 0 0) := (blk_cell K3.out 4).trans rfl; have f4 := blk_frozen K3.out 4; have y5 : wb.cell? ⟨g3, 5, none⟩ = some (.slice none 0 0) := (blk_cell K3.out 5).trans rfl; have f5 := blk_frozen K3.out 5)
  | ((with_reducible refine gate_dst (N := 43) rfl ?_); (have hbx := kset6_below WB.out NF.out (.string (⟨#[]⟩ : ByteArray)) (.int .i64 0) (.int .i64 0) (.slice (some a14) knLex.length knLex.length) (.slice none 0 0) (.slice (some a41) knSty.length knSty.length); replace HF := Aside0.mk (HF.out.step hbx)); replace HD := Aside0.mk (kset6_below HD.out NG.out (.string (⟨#[]⟩ : ByteArray)) (.int .i64 0) (.int .i64 0) (.slice (some a14) knLex.length knLex.length) (.slice none 0 0) (.slice (some a41) knSty.length knSty.length)); replace K3 := Aside0.mk (kset6_blk K3.out (.string (⟨#[]⟩ : ByteArray)) (.int .i64 0) (.int .i64 0) (.slice (some a14) knLex.length knLex.length) (.slice none 0 0) (.slice (some a41) knSty.length knSty.length)); clear y0 f0 y1 f1 y2 f2 y3 f3 y4 f4 y5 f5; refine C_lit (Kd.int .i64) 3 ?hg (N := 43) ?hd (xs := ([-5, 1] : List Int)) (inner := [.int .i64 (-5), .int .i64 1]) ?hr ?hp (by decide) ?_; (case hd => rfl); (case hg => rfl); (case hr => first | (go_simp; done) | (go_simp; rfl)); (case hp => exact ((Reps.one rfl (Reps.one rfl (Reps.none _ _))))); intro a43 w43 hc hb; replace HF := Aside0.mk (HF.out.add hb hc); replace HD := Aside0.mk (below_step HD.out hb); replace K3 := Aside0.mk (blk_below K3.out hb); clear hb hc)
  | ((with_reducible refine gate_dst (N := 45) rfl ?_); refine C_lit (Kd.int .i64) 3 ?hg (N := 45) ?hd (xs := ([12, 0] : List Int)) (inner := [.int .i64 12, .int .i64 0]) ?hr ?hp (by decide) ?_; (case hd => rfl); (case hg => rfl); (case hr => first | (go_simp; done) | (go_simp; rfl)); (case hp => exact ((Reps.one rfl (Reps.one rfl (Reps.none _ _))))); intro a45 w45 hc hb; replace HF := Aside0.mk (HF.out.add hb hc); replace HD := Aside0.mk (below_step HD.out hb); replace K3 := Aside0.mk (blk_below K3.out hb); clear hb hc)
  | ((with_reducible refine gate_dst (N := 47) rfl ?_); refine C_lit (Kd.int .i64) 3 ?hg (N := 47) ?hd (xs := ([-12345, 3] : List Int)) (inner := [.int .i64 (-12345), .int .i64 3]) ?hr ?hp (by decide) ?_; (case hd => rfl); (case hg => rfl); (case hr => first | (go_simp; done) | (go_simp; rfl)); (case hp => exact ((Reps.one rfl (Reps.one rfl (Reps.none _ _))))); intro a47 w47 hc hb; replace HF := Aside0.mk (HF.out.add hb hc); replace HD := Aside0.mk (below_step HD.out hb); replace K3 := Aside0.mk (blk_below K3.out hb); clear hb hc)
  | ((with_reducible refine gate_dst (N := 49) rfl ?_); refine C_lit (Kd.int .i64) 3 ?hg (N := 49) ?hd (xs := ([9782, -5] : List Int)) (inner := [.int .i64 9782, .int .i64 (-5)]) ?hr ?hp (by decide) ?_; (case hd => rfl); (case hg => rfl); (case hr => first | (go_simp; done) | (go_simp; rfl)); (case hp => exact ((Reps.one rfl (Reps.one rfl (Reps.none _ _))))); intro a49 w49 hc hb; replace HF := Aside0.mk (HF.out.add hb hc); replace HD := Aside0.mk (below_step HD.out hb); replace K3 := Aside0.mk (blk_below K3.out hb); clear hb hc)
  | ((with_reducible refine gate_dst (N := 51) rfl ?_); refine C_lit (Kd.int .i64) 3 ?hg (N := 51) ?hd (xs := ([9782, 123456] : List Int)) (inner := [.int .i64 9782, .int .i64 123456]) ?hr ?hp (by decide) ?_; (case hd => rfl); (case hg => rfl); (case hr => first | (go_simp; done) | (go_simp; rfl)); (case hp => exact ((Reps.one rfl (Reps.one rfl (Reps.none _ _))))); intro a51 w51 hc hb; replace HF := Aside0.mk (HF.out.add hb hc); replace HD := Aside0.mk (below_step HD.out hb); replace K3 := Aside0.mk (blk_below K3.out hb); clear hb hc)
  | ((with_reducible refine gate_dst (N := 53) rfl ?_); refine C_lit (Kd.int .i64) 3 ?hg (N := 53) ?hd (xs := ([3920, 7] : List Int)) (inner := [.int .i64 3920, .int .i64 7]) ?hr ?hp (by decide) ?_; (case hd => rfl); (case hg => rfl); (case hr => first | (go_simp; done) | (go_simp; rfl)); (case hp => exact ((Reps.one rfl (Reps.one rfl (Reps.none _ _))))); intro a53 w53 hc hb; replace HF := Aside0.mk (HF.out.add hb hc); replace HD := Aside0.mk (below_step HD.out hb); replace K3 := Aside0.mk (blk_below K3.out hb); clear hb hc)
  | ((with_reducible refine gate_dst (N := 55) rfl ?_); refine C_lit (Kd.int .i64) 3 ?hg (N := 55) ?hd (xs := ([3725] : List Int)) (inner := [.int .i64 3725]) ?hr ?hp (by decide) ?_; (case hd => rfl); (case hg => rfl); (case hr => first | (go_simp; done) | (go_simp; rfl)); (case hp => exact ((Reps.one rfl (Reps.none _ _)))); intro a55 w55 hc hb; replace HF := Aside0.mk (HF.out.add hb hc); replace HD := Aside0.mk (below_step HD.out hb); replace K3 := Aside0.mk (blk_below K3.out hb); clear hb hc)
  | ((with_reducible refine gate_dst (N := 57) rfl ?_); refine C_lit (Kd.int .i64) 3 ?hg (N := 57) ?hd (xs := ([359999] : List Int)) (inner := [.int .i64 359999]) ?hr ?hp (by decide) ?_; (case hd => rfl); (case hg => rfl); (case hr => first | (go_simp; done) | (go_simp; rfl)); (case hp => exact ((Reps.one rfl (Reps.none _ _)))); intro a57 w57 hc hb; replace HF := Aside0.mk (HF.out.add hb hc); replace HD := Aside0.mk (below_step HD.out hb); replace K3 := Aside0.mk (blk_below K3.out hb); clear hb hc)
  | ((with_reducible refine gate_dst (N := 59) rfl ?_); refine C_lit (Kd.int .i64) 3 ?hg (N := 59) ?hd (xs := ([33, 5, 1] : List Int)) (inner := [.int .i64 33, .int .i64 5, .int .i64 1]) ?hr ?hp (by decide) ?_; (case hd => rfl); (case hg => rfl); (case hr => first | (go_simp; done) | (go_simp; rfl)); (case hp => exact ((Reps.one rfl (Reps.one rfl (Reps.one rfl (Reps.none _ _)))))); intro a59 w59 hc hb; replace HF := Aside0.mk (HF.out.add hb hc); replace HD := Aside0.mk (below_step HD.out hb); replace K3 := Aside0.mk (blk_below K3.out hb); clear hb hc)
  | ((with_reducible refine gate_dst (N := 61) rfl ?_); refine C_lit (Kd.int .i64) 3 ?hg (N := 61) ?hd (xs := ([33, 6, 1] : List Int)) (inner := [.int .i64 33, .int .i64 6, .int .i64 1]) ?hr ?hp (by decide) ?_; (case hd => rfl); (case hg => rfl); (case hr => first | (go_simp; done) | (go_simp; rfl)); (case hp => exact ((Reps.one rfl (Reps.one rfl (Reps.one rfl (Reps.none _ _)))))); intro a61 w61 hc hb; replace HF := Aside0.mk (HF.out.add hb hc); replace HD := Aside0.mk (below_step HD.out hb); replace K3 := Aside0.mk (blk_below K3.out hb); clear hb hc)
  | ((with_reducible refine gate_dst (N := 63) rfl ?_); refine C_lit k38 38 ?hg (N := 63) ?hd (xs := knVal) (inner := [.int .i64 7, .slice (some a43) 2 2, .int .i64 7, .slice (some a45) 2 2, .int .i64 7, .slice (some a47) 2 2, .int .i64 8, .slice (some a49) 2 2, .int .i64 8, .slice (some a51) 2 2, .int .i64 8, .slice (some a53) 2 2, .int .i64 9, .slice (some a55) 1 1, .int .i64 9, .slice (some a57) 1 1, .int .i64 4, .slice (some a59) 3 3, .int .i64 4, .slice (some a61) 3 3]) ?hr ?hp (by decide) ?_; (case hd => rfl); (case hg => rfl); (case hr => first | (go_simp; done) | (go_simp; rfl)); (case hp => exact (Reps.c2 (k38_mk _ (⟨7, ([-5, 1] : List Int)⟩ : S38) (Nat.le_refl _) (HF.out.now.1.1.1.1.1.1.1.1.1.2)) (Reps.c2 (k38_mk _ (⟨7, ([12, 0] : List Int)⟩ : S38) (Nat.le_refl _) (HF.out.now.1.1.1.1.1.1.1.1.2)) (Reps.c2 (k38_mk _ (⟨7, ([-12345, 3] : List Int)⟩ : S38) (Nat.le_refl _) (HF.out.now.1.1.1.1.1.1.1.2)) (Reps.c2 (k38_mk _ (⟨8, ([9782, -5] : List Int)⟩ : S38) (Nat.le_refl _) (HF.out.now.1.1.1.1.1.1.2)) (Reps.c2 (k38_mk _ (⟨8, ([9782, 123456] : List Int)⟩ : S38) (Nat.le_refl _) (HF.out.now.1.1.1.1.1.2)) (Reps.c2 (k38_mk _ (⟨8, ([3920, 7] : List Int)⟩ : S38) (Nat.le_refl _) (HF.out.now.1.1.1.1.2)) (Reps.c2 (k38_mk _ (⟨9, ([3725] : List Int)⟩ : S38) (Nat.le_refl _) (HF.out.now.1.1.1.2)) (Reps.c2 (k38_mk _ (⟨9, ([359999] : List Int)⟩ : S38) (Nat.le_refl _) (HF.out.now.1.1.2)) (Reps.c2 (k38_mk _ (⟨4, ([33, 5, 1] : List Int)⟩ : S38) (Nat.le_refl _) (HF.out.now.1.2)) (Reps.c2 (k38_mk _ (⟨4, ([33, 6, 1] : List Int)⟩ : S38) (Nat.le_refl _) (HF.out.now.2)) (Reps.none _ _)))))))))))); intro a63 w63 hc hb; replace HF := Aside0.mk (HF.out.add hb hc); replace HD := Aside0.mk (below_step HD.out hb); replace K3 := Aside0.mk (blk_below K3.out hb); clear hb hc)
  | ((with_reducible refine gate_dst (N := 64) rfl ?_); refine C_lit (Kd.int .i64) 3 ?hg (N := 64) ?hd (xs := knK) (inner := [.int .i64 0, .int .i64 0, .int .i64 0, .int .i64 1, .int .i64 1, .int .i64 1, .int .i64 2, .int .i64 2, .int .i64 3, .int .i64 3]) ?hr ?hp (by decide) ?_; (case hd => rfl); (case hg => rfl); (case hr => first | (go_simp; done) | (go_simp; rfl)); (case hp => exact (Reps.one rfl (Reps.one rfl (Reps.one rfl (Reps.one rfl (Reps.one rfl (Reps.one rfl (Reps.one rfl (Reps.one rfl (Reps.one rfl (Reps.one rfl (Reps.none _ _)))))))))))); intro a64 w64 hc hb; replace HF := Aside0.mk (HF.out.add hb hc); replace HD := Aside0.mk (below_step HD.out hb); replace K3 := Aside0.mk (blk_below K3.out hb); clear hb hc)
  | ((with_reducible refine gate_dst (N := 65) rfl ?_); refine C_lit Kd.string 9 ?hg (N := 65) ?hd (xs := knW) (inner := [.string (⟨#[45, 48, 46, 53, 48]⟩ : ByteArray), .string (⟨#[49, 50, 46, 48, 48]⟩ : ByteArray), .string (⟨#[45, 49, 50, 46, 51, 52, 53]⟩ : ByteArray), .string (⟨#[45, 48, 44, 48, 53, 32, 101, 117, 114]⟩ : ByteArray), .string (⟨#[49, 50, 51, 52, 44, 53, 54, 32, 101, 117, 114]⟩ : ByteArray), .string (⟨#[63]⟩ : ByteArray), .string (⟨#[48, 49, 58, 48, 50, 58, 48, 53]⟩ : ByteArray), .string (⟨#[57, 57, 58, 53, 57, 58, 53, 57]⟩ : ByteArray), .string (⟨#[49, 46, 32, 109, 97, 121, 32, 48, 48, 51, 51]⟩ : ByteArray), .string (⟨#[63]⟩ : ByteArray)]) ?hr ?hp (by decide) ?_; (case hd => rfl); (case hg => rfl); (case hr => first | (go_simp; done) | (go_simp; rfl)); (case hp => exact (Reps.one rfl (Reps.one rfl (Reps.one rfl (Reps.one rfl (Reps.one rfl (Reps.one rfl (Reps.one rfl (Reps.one rfl (Reps.one rfl (Reps.one rfl (Reps.none _ _)))))))))))); intro a65 w65 hc hb; replace HF := Aside0.mk (HF.out.add hb hc); replace HD := Aside0.mk (below_step HD.out hb); replace K3 := Aside0.mk (blk_below K3.out hb); clear hb hc)
  | (go_at_call 9; (with_reducible refine (interlocutorlaw11_within.calls a0 (knVal.length : Int) i _ H1.out).mono ?_); rintro e wi ⟨rfl, hb0⟩; have hb := hb0.below; replace HF := Aside0.mk (HF.out.step hb); replace HD := Aside0.mk (below_step HD.out hb); replace K3 := Aside0.mk (blk_below K3.out hb); clear hb; clear hb0))
 have q1 : i < (knVal.length : Int) := q0
 have q2 : i < (knK.length : Int) := q0
 have q3 : i < (knW.length : Int) := q0
 clear q0 hbx
 obtain ⟨xv, hxv⟩ : ∃ x, x = rd_T38 knVal i := ⟨_, rfl⟩
 obtain ⟨xk, hxk⟩ : ∃ x, x = rd knK i := ⟨_, rfl⟩
 obtain ⟨xw, hxw⟩ : ∃ x, x = rdOf ByteArray.empty knW i := ⟨_, rfl⟩
 replace H2 := H2.out
 replace H3 := H3.out
 rw [← hxv, ← hxk] at H2
 rw [← hxw] at H3
 replace H2 := Aside0.mk H2
 replace H3 := Aside0.mk H3
 obtain ⟨av, Av, cv, ev, v0, v1, v2, v3⟩ := at_T38 (HF.out.now.1.1.2) i p0 q1
 obtain ⟨ak, ek, k0⟩ := Kd.at_int (HF.out.now.1.2) i p0 q2
 obtain ⟨aw, ew, u0⟩ := Kd.at_string (HF.out.now.2) i p0 q3
 obtain rfl : a63 = av := by injection ev
 obtain rfl : a64 = ak := by injection ek
 obtain rfl : a65 = aw := by injection ew
 rw [← hxv] at v0 v1 v2 v3
 rw [← hxk] at k0
 rw [← hxw] at u0
 have V2 := Aside0.mk v2
 have V3 := Aside0.mk v3
 have XX := Aside0.mk (And.intro hxv (And.intro hxk hxw))
 clear ev ek ew v2 v3 hxv hxk hxw
 have CL := Aside0.mk (show HeldR (fun W => (Kd.C k24 W (some a14) knLex.length knLex ∧ Kd.C k31 W (some a41) knSty.length knSty ∧ Kd.C (Kd.int .i64) W Av xv.f1.length xv.f1) ∧ World.cell? W (a63.add (i.toNat * 2)) = some (.int .i64 xv.f0) ∧ World.cell? W ⟨(a63.add (i.toNat * 2)).block, (a63.add (i.toNat * 2)).off + 1, none⟩ = some (.slice Av xv.f1.length cv) ∧ World.cell? W (a64.add i.toNat) = some (.int .i64 xk) ∧ World.cell? W (a65.add i.toNat) = some (.string xw)) _ from ⟨fun W1 W2 b h => ⟨⟨Kd.C_below h.1.1 b, Kd.C_below h.1.2.1 b, Kd.C_below h.1.2.2 b⟩, pw_cell_below b h.2.1, pw_cell_below b h.2.2.1, pw_cell_below b h.2.2.2.1, pw_cell_below b h.2.2.2.2⟩, ⟨(HF.out.now.1.1.1.1.1.1.1.1.1.1.1.1.1.1.1.1.1.1.2), (HF.out.now.1.1.1.1.1.1.1.1.1.1.1.1.1.2), V3.out⟩, v0, v1, k0, u0⟩)
 clear HF V3 v0 v1 k0 u0
 replace CL := Aside0.mk (CL.out.step (below_drew1 (Below.refl _ _)))
 replace HD := Aside0.mk (below_drew HD.out)
 replace K3 := Aside0.mk (blk_drew K3.out)
 refine start_ (n := 15) (S := fun w' => HeldR (fun W => (Kd.C k24 W (some a14) knLex.length knLex ∧ Kd.C k31 W (some a41) knSty.length knSty ∧ Kd.C (Kd.int .i64) W Av xv.f1.length xv.f1) ∧ World.cell? W (a63.add (i.toNat * 2)) = some (.int .i64 xv.f0) ∧ World.cell? W ⟨(a63.add (i.toNat * 2)).block, (a63.add (i.toNat * 2)).off + 1, none⟩ = some (.slice Av xv.f1.length cv) ∧ World.cell? W (a64.add i.toNat) = some (.int .i64 xk) ∧ World.cell? W (a65.add i.toNat) = some (.string xw)) w' ∧ w'.heap[g3]? = some (.cells #[.string (⟨#[]⟩ : ByteArray), .int .i64 0, .int .i64 0, .slice (some a14) knLex.length knLex.length, .slice none 0 0, .slice (some a41) knSty.length knSty.length] 35 (0, 0))) (ds := []) #[false, false, false, false, false, false, false, false, false, false, false, false, false, false, false] (by kernel_rfl) rfl rfl ⟨CL.out, K3.out⟩ (fun hHeld => ?_)
 generalize World.drew _ = wd at HD K3 CL hHeld ⊢
 refine pure_ (i := 1) (N := (some 72)) (v := ?_) (a' := ?_) (oB 15 2) rfl rfl (by kernel_rfl) (fun _ _ _ h => h) (Or.inl ⟨by rfl, ?_⟩) ?_ ?_
 rotate_left
 ·intro w'
  go_simp
  with_reducible rfl
 rotate_left
 ·simp only [Act.put, List.setIfInBounds_toArray, List.set_cons_zero, List.set_cons_succ, i64_w, i32_w]
  rfl
 refine pure_ (i := 2) (N := (some 73)) (v := ?_) (a' := ?_) (oB 15 6) rfl rfl (by kernel_rfl) (fun _ _ _ h => h) (Or.inl ⟨by rfl, ?_⟩) ?_ ?_
 rotate_left
 ·intro w'
  go_simp
  with_reducible rfl
 rotate_left
 ·simp only [Act.put, List.setIfInBounds_toArray, List.set_cons_zero, List.set_cons_succ, i64_w, i32_w]
  rfl
 refine pure_ (i := 3) (N := (some 74)) (v := ?_) (a' := ?_) (oB 15 14) rfl rfl (by kernel_rfl) (fun _ _ _ h => h) (Or.inl ⟨by rfl, ?_⟩) ?_ ?_
 rotate_left
 ·intro w'
  go_simp
  with_reducible rfl
 rotate_left
 ·simp only [Act.put, List.setIfInBounds_toArray, List.set_cons_zero, List.set_cons_succ, i64_w, i32_w]
  rfl
 refine pure_ (i := 5) (N := (some 76)) (v := ?_) (a' := ?_) (oB 15 46) rfl rfl (by kernel_rfl) (fun _ _ _ h => h) (Or.inl ⟨by rfl, ?_⟩) ?_ ?_
 rotate_left
 ·intro w'
  go_simp
  with_reducible rfl
 rotate_left
 ·simp only [Act.put, List.setIfInBounds_toArray, List.set_cons_zero, List.set_cons_succ, i64_w, i32_w]
  rfl
 refine pure_ (i := 6) (N := (some 77)) (v := ?_) (a' := ?_) (oB 15 110) rfl rfl (by kernel_rfl) (fun _ _ _ h => h) (Or.inl ⟨by rfl, ?_⟩) ?_ ?_
 rotate_left
 ·intro w'
  go_simp
  with_reducible rfl
 rotate_left
 ·simp only [Act.put, List.setIfInBounds_toArray, List.set_cons_zero, List.set_cons_succ, i64_w, i32_w]
  rfl
 refine pure_ (i := 7) (N := (some 78)) (v := ?_) (a' := ?_) (oB 15 238) rfl rfl (by kernel_rfl) (fun _ _ _ h => h) (Or.inl ⟨by rfl, ?_⟩) ?_ ?_
 rotate_left
 ·intro w'
  go_simp
  with_reducible rfl
 rotate_left
 ·simp only [Act.put, List.setIfInBounds_toArray, List.set_cons_zero, List.set_cons_succ, i64_w, i32_w]
  rfl
 refine take_ (i := 0) (N := (some 71)) (v := ?_) (a' := ?_) (oB 15 239) rfl rfl (by kernel_rfl) (fun _ _ _ h => h) (Or.inl ⟨by rfl, ?_⟩) hHeld ?_ ?_
 rotate_left
 ·rintro w' ⟨⟨_, _, s0, s1, s2, s3⟩, hK_⟩
  have r0 : w'.cell? ⟨g3, 0, none⟩ = some (.string (⟨#[]⟩ : ByteArray)) := (blk_cell hK_ 0).trans rfl
  have r1 : w'.cell? ⟨g3, 1, none⟩ = some (.int .i64 0) := (blk_cell hK_ 1).trans rfl
  have r2 : w'.cell? ⟨g3, 2, none⟩ = some (.int .i64 0) := (blk_cell hK_ 2).trans rfl
  have r3 : w'.cell? ⟨g3, 3, none⟩ = some (.slice (some a14) knLex.length knLex.length) := (blk_cell hK_ 3).trans rfl
  have r4 : w'.cell? ⟨g3, 4, none⟩ = some (.slice none 0 0) := (blk_cell hK_ 4).trans rfl
  have r5 : w'.cell? ⟨g3, 5, none⟩ = some (.slice (some a41) knSty.length knSty.length) := (blk_cell hK_ 5).trans rfl
  go_simp
  with_reducible rfl
 rotate_left
 ·simp only [Act.put, List.setIfInBounds_toArray, List.set_cons_zero, List.set_cons_succ, i64_w, i32_w]
  rfl
 refine take_ (i := 4) (N := (some 75)) (v := ?_) (a' := ?_) (oB 15 255) rfl rfl (by kernel_rfl) (fun _ _ _ h => h) (Or.inl ⟨by rfl, ?_⟩) hHeld ?_ ?_
 rotate_left
 ·rintro w' ⟨⟨_, _, s0, s1, s2, s3⟩, hK_⟩
  go_simp
  with_reducible rfl
 rotate_left
 ·simp only [Act.put, List.setIfInBounds_toArray, List.set_cons_zero, List.set_cons_succ, i64_w, i32_w]
  rfl
 refine take_ (i := 8) (N := (some 79)) (v := ?_) (a' := ?_) (oB 15 511) rfl rfl (by kernel_rfl) (fun _ _ _ h => h) (Or.inl ⟨by rfl, ?_⟩) hHeld ?_ ?_
 rotate_left
 ·rintro w' ⟨⟨_, _, s0, s1, s2, s3⟩, hK_⟩
  go_simp
  with_reducible rfl
 rotate_left
 ·simp only [Act.put, List.setIfInBounds_toArray, List.set_cons_zero, List.set_cons_succ, i64_w, i32_w]
  rfl
 refine one_ (i := 9) (N := (some 80)) (oB 15 1023) rfl rfl (by kernel_rfl) (by decide) (fun K hK => ?_)
 refine goes_ Tryd.func10 (by kernel_rfl) rfl #[.agg #[.string (⟨#[]⟩ : ByteArray), .int .i64 0, .int .i64 0, .slice (some a14) knLex.length knLex.length, .slice none 0 0, .slice (some a41) knSty.length knSty.length], .int .i64 xk, .agg #[.int .i64 xv.f0, .slice Av xv.f1.length cv]] (by rfl) rfl rfl (by (try simp only [List.map_toArray, List.map_cons, List.map_nil]); first | done | rfl) ?_
 refine (render_Write.calls k ⟨#[]⟩ 0 0 (some a14) knLex.length knLex none 0 [] (some a41) knSty.length knSty xk xv.f0 Av cv xv.f1 b.1 b.2 _ CL.out.now.1.1 (Nat.le_refl _) (Kd.C_nil _ _) (Nat.le_refl _) CL.out.now.1.2.1 (Nat.le_refl _) CL.out.now.1.2.2 V2.out H2.out (tab_below HT.out HD.out)).mono ?_
 rintro e wz ⟨rfl, hb⟩
 refine ⟨_, rfl, ?_⟩
 replace CL := Aside0.mk (CL.out.step hb)
 replace K3 := Aside0.mk (blk_below K3.out hb)
 replace HD := Aside0.mk (below_step HD.out hb)
 clear hb
 change K (Act.put _ (some 80) _) _
 refine hK.out _ _ ⟨CL.out, K3.out⟩ (fun hHeld => ?_)
 clear hK K
 refine nM ?_
 refine pure_ (i := 10) (N := (some 70)) (v := ?_) (a' := ?_) (oB 15 2047) rfl rfl (by kernel_rfl) (fun _ _ _ h => h) (Or.inl ⟨by rfl, ?_⟩) ?_ ?_
 rotate_left
 ·intro w'
  go_simp
  with_reducible rfl
 rotate_left
 ·simp only [Act.put, List.setIfInBounds_toArray, List.set_cons_zero, List.set_cons_succ, i64_w, i32_w]
  rfl
 refine pure_ (i := 11) (N := (some 81)) (v := ?_) (a' := ?_) (oB 15 4095) rfl rfl (by kernel_rfl) (fun _ _ _ h => h) (Or.inl ⟨by rfl, ?_⟩) ?_ ?_
 rotate_left
 ·intro w'
  go_simp
  with_reducible rfl
 rotate_left
 ·simp only [Act.put, List.setIfInBounds_toArray, List.set_cons_zero, List.set_cons_succ, i64_w, i32_w]
  rfl
 refine pure_ (i := 12) (N := (some 82)) (v := ?_) (a' := ?_) (oB 15 8191) rfl rfl (by kernel_rfl) (fun _ _ _ h => h) (Or.inl ⟨by rfl, ?_⟩) ?_ ?_
 rotate_left
 ·intro w'
  go_simp
  with_reducible rfl
 rotate_left
 ·simp only [Act.put, List.setIfInBounds_toArray, List.set_cons_zero, List.set_cons_succ, i64_w, i32_w]
  rfl
 refine pure_ (i := 13) (N := (some 8)) (v := ?_) (a' := ?_) (oB 15 16383) rfl rfl (by kernel_rfl) (fun _ _ _ h => h) (Or.inl ⟨by rfl, ?_⟩) ?_ ?_
 rotate_left
 ·intro w'
  go_simp
  with_reducible rfl
 rotate_left
 ·simp only [Act.put, List.setIfInBounds_toArray, List.set_cons_zero, List.set_cons_succ, i64_w, i32_w]
  rfl
 refine pure_ (i := 14) (N := (some 9)) (v := ?_) (a' := ?_) (oB 15 32767) rfl rfl (by kernel_rfl) (fun _ _ _ h => h) (Or.inl ⟨by rfl, ?_⟩) ?_ ?_
 rotate_left
 ·intro w'
  go_simp
  with_reducible rfl
 rotate_left
 ·simp only [Act.put, List.setIfInBounds_toArray, List.set_cons_zero, List.set_cons_succ, i64_w, i32_w]
  rfl
 refine done_ (by kernel_rfl) ?_
 clear hHeld
 have u0 : wz.cell? (a65.add i.toNat) = some (.string xw) := CL.out.now.2.2.2.2
 have h3 := H3.out
 unfold knOk at h3
 cases c1 : xw.toList == ([63] : List UInt8) with
 | true =>
  rw [if_pos c1, Bool.and_eq_true] at h3
  obtain ⟨c2, c3⟩ := h3
  go_wp2
  go_ret
  exact ⟨rfl, HD.out⟩
 | false =>
  rw [if_neg (by rw [c1]; decide), Bool.and_eq_true] at h3
  obtain ⟨c2, c3⟩ := h3
  go_wp2
  go_ret
  exact ⟨rfl, HD.out⟩
theorem interlocutorlaw11_RenderKnown.calls (k : Nat) (a0 : Int) (r : Bool) (w : World) (h : interlocutorlaw11_RenderKnown.f k a0 = some r) (hT_ : TabOK w) :
  Calls Tryd.prog 3 #[.int .i64 a0] w fun e w' => e = .returned (.bool r) ∧ Below w.heap.size w w' := by
 obtain ⟨t, h0, h⟩ := Option.bind_eq_some_iff.mp h
 by_cases ht : t = true
 ·rw [if_pos ht] at h
  subst ht
  obtain ⟨i, h1, h⟩ := Option.bind_eq_some_iff.mp h
  by_cases hi : 0 ≤ i ∧ i < 10
  ·rw [if_pos hi] at h
   obtain ⟨b, h2, h⟩ := Option.bind_eq_some_iff.mp h
   by_cases hk : knOk (rdOf ByteArray.empty knW i) b = true
   ·rw [if_pos hk] at h
    obtain rfl := Option.some.inj h
    exact known11_walk k a0 i b w h0 h1 hi.1 hi.2 h2 hk hT_
   ·rw [if_neg hk] at h
    cases h
  ·rw [if_neg hi] at h
   cases h
 ·rw [if_neg ht] at h
  cases h
def interlocutorlaw11_RenderKnown.Pure : Prop := ∀ (a0 : Int), (Lit.int .i64 a0).wf = true → ∃ k, interlocutorlaw11_RenderKnown.f k a0 = some true
theorem interlocutorlaw11_RenderKnown.walk (P : interlocutorlaw11_RenderKnown.Pure) (a0 : Int) (w : World) (w0 : (Lit.int .i64 a0).wf = true) (hT_ : TabOK w) :
  Calls Tryd.prog 3 #[.int .i64 a0] w fun e w' => e = .returned (.bool true) ∧ Below w.heap.size w w' := by
 obtain ⟨k, h⟩ := P a0 w0
 refine (interlocutorlaw11_RenderKnown.calls k a0 true w h hT_).mono ?_
 rintro e w' ⟨rfl, hd⟩
 exact ⟨rfl, hd⟩
end Go.Proofs.YtjijikgandkphaaDoor.G
