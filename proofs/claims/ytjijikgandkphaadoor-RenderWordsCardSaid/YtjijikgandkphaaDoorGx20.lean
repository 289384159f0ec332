import Derived.Test.YtjijikgandkphaaDoorGx0
namespace Go.Proofs.YtjijikgandkphaaDoor.G
open Go.RowKit Go.Proofs.YtjijikgandkphaaDoorW.PrintWords Go.Proofs.YtjijikgandkphaaDoorW.PrintLast Go.Proofs.YtjijikgandkphaaDoorW.PrintMore Go.Proofs.YtjijikgandkphaaDoorW.VWords Go.Proofs.YtjijikgandkphaaDoorW.Tab
attribute [local go_sem] max2_int min2_int max_two min_two max_three min_three max_four min_four
set_option linter.unusedVariables false
set_option linter.unusedSimpArgs false
def atF : Nat → List S35 → Int → Option S35
 | 0, _, _ => none
 | k + 1, l, i => if 0 ≤ i ∧ i < (l.length : Int) then (if (rd_T35 l i).f1 < 0 then some (rd_T35 l i) else (atF k l (rd_T35 l i).f1).bind fun p =>
   if p.f3.length + (rd_T35 l i).f3.length < 1000000 ∧ p.f4.length + (rd_T35 l i).f4.length < 1000000 ∧ p.f5.length + (rd_T35 l i).f5.length < 1000000 then
    some ⟨(rd_T35 l i).f0, (rd_T35 l i).f1, (rd_T35 l i).f2, p.f3 ++ (rd_T35 l i).f3, p.f4 ++ (rd_T35 l i).f4, p.f5 ++ (rd_T35 l i).f5⟩ else none) else none
theorem at_F {w : World} {ok : Nat → Prop} {A : Option Addr} {n : Nat} {l : List S35} (h : Kd.F k35 w ok A n l) (i : Int) (h0 : 0 ≤ i) (h1 : i < n) (x : S35) (hx : x = rd_T35 l i) : ∃ ad A3 c3 A4 c4 A5 c5, A = some ad ∧ w.cell? (ad.add (i.toNat * 6)) = some (.string x.f0) ∧ w.cell? ⟨(ad.add (i.toNat * 6)).block, (ad.add (i.toNat * 6)).off + 1, none⟩ = some (.int .i64 x.f1) ∧ w.cell? ⟨(ad.add (i.toNat * 6)).block, (ad.add (i.toNat * 6)).off + 2, none⟩ = some (.int .i64 x.f2) ∧ w.cell? ⟨(ad.add (i.toNat * 6)).block, (ad.add (i.toNat * 6)).off + 3, none⟩ = some (.slice A3 x.f3.length c3) ∧ w.cell? ⟨(ad.add (i.toNat * 6)).block, (ad.add (i.toNat * 6)).off + 4, none⟩ = some (.slice A4 x.f4.length c4) ∧ w.cell? ⟨(ad.add (i.toNat * 6)).block, (ad.add (i.toNat * 6)).off + 5, none⟩ = some (.slice A5 x.f5.length c5) ∧ x.f3.length ≤ c3 ∧ Kd.F k24 w ok A3 x.f3.length x.f3 ∧ x.f4.length ≤ c4 ∧ Kd.F k96 w ok A4 x.f4.length x.f4 ∧ x.f5.length ≤ c5 ∧ Kd.F k31 w ok A5 x.f5.length x.f5 := by
 obtain ⟨ad, c, e, _, hFK, hc0, _⟩ := Kd.F_get h z35 i h0 h1
 replace hFK : Kd.FK k35 w ok x c := hx ▸ hFK
 have hc : ∀ j u, c[j]? = some u → w.cell? (ad.add (i.toNat * 6 + j)) = some u := hc0
 obtain ⟨A3, c3, A4, c4, A5, c5, rfl, l3, f3, l4, f4, l5, f5⟩ := k35_openF hFK
 exact ⟨ad, A3, c3, A4, c4, A5, c5, e, hc 0 _ rfl, by rw [← add_field _ _ 1 (by omega)]; exact hc 1 _ rfl, by rw [← add_field _ _ 2 (by omega)]; exact hc 2 _ rfl, by rw [← add_field _ _ 3 (by omega)]; exact hc 3 _ rfl, by rw [← add_field _ _ 4 (by omega)]; exact hc 4 _ rfl, by rw [← add_field _ _ 5 (by omega)]; exact hc 5 _ rfl, l3, f3, l4, f4, l5, f5⟩
abbrev set6 (w : World) (g : Nat) (v0 v1 v2 v3 v4 v5 : Value) : World := (((((w.setCell ⟨g, 0, none⟩ v0).setCell ⟨g, 1, none⟩ v1).setCell ⟨g, 2, none⟩ v2).setCell ⟨g, 3, none⟩ v3).setCell ⟨g, 4, none⟩ v4).setCell ⟨g, 5, none⟩ v5
theorem set6_blk {w : World} {g t : Nat} {u0 u1 u2 u3 u4 u5 : Value} (h : w.heap[g]? = some (.cells #[u0, u1, u2, u3, u4, u5] t (0, 0))) (v0 v1 v2 v3 v4 v5 : Value) : (set6 w g v0 v1 v2 v3 v4 v5).heap[g]? = some (.cells #[v0, v1, v2, v3, v4, v5] t (0, 0)) :=
 blk_put (blk_put (blk_put (blk_put (blk_put (blk_put h 0 v0 rfl) 1 v1 rfl) 2 v2 rfl) 3 v3 rfl) 4 v4 rfl) 5 v5 rfl
theorem set6_far (w : World) (g k : Nat) (v0 v1 v2 v3 v4 v5 : Value) (h : k ≠ g) : (set6 w g v0 v1 v2 v3 v4 v5).heap[k]? = w.heap[k]? :=
 have s : ∀ (W : World) j v, (W.setCell ⟨g, j, none⟩ v).heap[k]? = W.heap[k]? := fun W j v => Below.heap_setCell W ⟨g, j, none⟩ v k h
 (s _ 5 v5).trans ((s _ 4 v4).trans ((s _ 3 v3).trans ((s _ 2 v2).trans ((s _ 1 v1).trans (s _ 0 v0)))))
theorem set6_below {w w0 : World} {g : Nat} (v0 v1 v2 v3 v4 v5 : Value) (h : Below w0.heap.size w0 w) (hg : w0.heap.size ≤ g) : Below w0.heap.size w0 (set6 w g v0 v1 v2 v3 v4 v5) :=
 below_set (below_set (below_set (below_set (below_set (below_set h hg) hg) hg) hg) hg) hg
theorem at_base {w w4 w5 : World} {P0 : Nat → Prop} {N0 g4 g5 : Nat} {cs : Array Value} {u0 u1 u2 u3 u4 u5 : Value} (hN : N0 ≤ w.heap.size) (hb4 : Below w.heap.size w w4) (n4 : w.heap.size ≤ g4) (n5 : w4.heap.size ≤ g5) (e : g4 ≠ g5) (k4 : w5.heap[g4]? = some (.cells cs 35 (0, 0))) (k5 : w5.heap[g5]? = some (.cells #[u0, u1, u2, u3, u4, u5] 35 (0, 0))) (hb5 : Below w4.heap.size w4 w5) (v0 v1 v2 v3 v4 v5 : Value) :
  Below w.heap.size w (set6 w5 g5 v0 v1 v2 v3 v4 v5) ∧ (∀ b, (P0 b ∧ b < N0) → b < w4.heap.size → (set6 w5 g5 v0 v1 v2 v3 v4 v5).heap[b]? = w4.heap[b]?) ∧ (set6 w5 g5 v0 v1 v2 v3 v4 v5).heap[g4]? = some (.cells cs 35 (0, 0)) ∧ (set6 w5 g5 v0 v1 v2 v3 v4 v5).heap[g5]? = some (.cells #[v0, v1, v2, v3, v4, v5] 35 (0, 0)) ∧ g4 < (set6 w5 g5 v0 v1 v2 v3 v4 v5).heap.size ∧ g5 < (set6 w5 g5 v0 v1 v2 v3 v4 v5).heap.size := by
 have s4 := below_size hb4
 have b4 := (set6_far w5 g5 g4 v0 v1 v2 v3 v4 v5 e).trans k4
 have b5 := set6_blk k5 v0 v1 v2 v3 v4 v5
 exact ⟨set6_below _ _ _ _ _ _ (below_step hb4 hb5) (by omega), fun b h1 h2 => by rw [set6_far _ _ _ _ _ _ _ _ _ (by omega), hb5.block b h2], b4, b5, blk_lt b4, blk_lt b5⟩
structure AtB (w W : World) (P0 : Nat → Prop) (N0 g4 g5 g6 : Nat) (x p : S35) (A3 : Option Addr) (c3 : Nat) (A4 : Option Addr) (c4 : Nat) (A5 : Option Addr) (c5 : Nat) (P3 : Option Addr) (d3 : Nat) (P4 : Option Addr) (d4 : Nat) (P5 : Option Addr) (d5 : Nat) : Prop where
 hb : Below w.heap.size w W
 n4 : w.heap.size ≤ g4
 n5 : w.heap.size ≤ g5
 e54 : g5 ≠ g4
 e56 : g5 ≠ g6
 k4 : W.heap[g4]? = some (.cells #[.string (⟨#[]⟩ : ByteArray), .int .i64 0, .int .i64 0, .slice none 0 0, .slice none 0 0, .slice none 0 0] 35 (0, 0))
 k5 : W.heap[g5]? = some (.cells #[.string x.f0, .int .i64 x.f1, .int .i64 x.f2, .slice A3 x.f3.length c3, .slice A4 x.f4.length c4, .slice A5 x.f5.length c5] 35 (0, 0))
 k6 : W.heap[g6]? = some (.cells #[.string p.f0, .int .i64 p.f1, .int .i64 p.f2, .slice P3 p.f3.length d3, .slice P4 p.f4.length d4, .slice P5 p.f5.length d5] 35 (0, 0))
 l3 : x.f3.length ≤ c3
 x3 : Kd.F k24 W (fun b => ((P0 b ∧ b < N0) ∨ w.heap.size ≤ b) ∧ b ≠ g4 ∧ b ≠ g5 ∧ b ≠ g6) A3 x.f3.length x.f3
 l4 : x.f4.length ≤ c4
 x4 : Kd.F k96 W (fun b => ((P0 b ∧ b < N0) ∨ w.heap.size ≤ b) ∧ b ≠ g4 ∧ b ≠ g5 ∧ b ≠ g6) A4 x.f4.length x.f4
 l5 : x.f5.length ≤ c5
 x5 : Kd.F k31 W (fun b => ((P0 b ∧ b < N0) ∨ w.heap.size ≤ b) ∧ b ≠ g4 ∧ b ≠ g5 ∧ b ≠ g6) A5 x.f5.length x.f5
 p3 : Kd.F k24 W (fun b => ((P0 b ∧ b < N0) ∨ w.heap.size ≤ b) ∧ b ≠ g4 ∧ b ≠ g5 ∧ b ≠ g6) P3 p.f3.length p.f3
 p4 : Kd.F k96 W (fun b => ((P0 b ∧ b < N0) ∨ w.heap.size ≤ b) ∧ b ≠ g4 ∧ b ≠ g5 ∧ b ≠ g6) P4 p.f4.length p.f4
 p5 : Kd.F k31 W (fun b => ((P0 b ∧ b < N0) ∨ w.heap.size ≤ b) ∧ b ≠ g4 ∧ b ≠ g5 ∧ b ≠ g6) P5 p.f5.length p.f5
section
variable {w W W1 : World} {P0 : Nat → Prop} {N0 g4 g5 g6 : Nat} {x p : S35} {A3 A4 A5 P3 P4 P5 : Option Addr} {c3 c4 c5 d3 d4 d5 : Nat}
theorem AtB.move (h : AtB w W P0 N0 g4 g5 g6 x p A3 c3 A4 c4 A5 c5 P3 d3 P4 d4 P5 d5) (hs : ∀ b, b < W.heap.size → W1.heap[b]? = W.heap[b]?) (hb : Below w.heap.size w W1) : AtB w W1 P0 N0 g4 g5 g6 x p A3 c3 A4 c4 A5 c5 P3 d3 P4 d4 P5 d5 :=
 have s : ∀ b, (fun b => ((P0 b ∧ b < N0) ∨ w.heap.size ≤ b) ∧ b ≠ g4 ∧ b ≠ g5 ∧ b ≠ g6) b → b < W.heap.size → W1.heap[b]? = W.heap[b]? := fun b _ hlt => hs b hlt
 ⟨hb, h.n4, h.n5, h.e54, h.e56, (hs _ (blk_lt h.k4)).trans h.k4, (hs _ (blk_lt h.k5)).trans h.k5, (hs _ (blk_lt h.k6)).trans h.k6, h.l3, Kd.F_step h.x3 s, h.l4, Kd.F_step h.x4 s, h.l5, Kd.F_step h.x5 s, Kd.F_step h.p3 s, Kd.F_step h.p4 s, Kd.F_step h.p5 s⟩
theorem AtB.on (h : AtB w W P0 N0 g4 g5 g6 x p A3 c3 A4 c4 A5 c5 P3 d3 P4 d4 P5 d5) (hb : Below W.heap.size W W1) : AtB w W1 P0 N0 g4 g5 g6 x p A3 c3 A4 c4 A5 c5 P3 d3 P4 d4 P5 d5 := h.move (fun b hlt => hb.block b hlt) (below_step h.hb hb)
theorem AtB.ok (h : AtB w W P0 N0 g4 g5 g6 x p A3 c3 A4 c4 A5 c5 P3 d3 P4 d4 P5 d5) : ∀ b, W.heap.size ≤ b → (fun b => ((P0 b ∧ b < N0) ∨ w.heap.size ≤ b) ∧ b ≠ g4 ∧ b ≠ g5 ∧ b ≠ g6) b := fun b hb => by
 have := blk_lt h.k4
 have := blk_lt h.k5
 have := blk_lt h.k6
 have := below_size h.hb
 exact ⟨.inr (by omega), by omega, by omega, by omega⟩
theorem AtB.old {α : Type} {d : Kd α} {v : Value} {e : Nat} {xs ys : List α} {A : Option Addr} {n : Nat} (f : Kd.F d W (fun b => ((P0 b ∧ b < N0) ∨ w.heap.size ≤ b) ∧ b ≠ g4 ∧ b ≠ g5 ∧ b ≠ g6) A n ys) (hb : Below W.heap.size W W1) (ho : Kd.N d e W1 W.heap.size (fun b => ((P0 b ∧ b < N0) ∨ w.heap.size ≤ b) ∧ b ≠ g4 ∧ b ≠ g5 ∧ b ≠ g6) v xs) : Kd.F d W1 (fun b => (fun b => ((P0 b ∧ b < N0) ∨ w.heap.size ≤ b) ∧ b ≠ g4 ∧ b ≠ g5 ∧ b ≠ g6) b ∧ b < W.heap.size) A n ys ∧ ∀ b, ((fun b => ((P0 b ∧ b < N0) ∨ w.heap.size ≤ b) ∧ b ≠ g4 ∧ b ≠ g5 ∧ b ≠ g6) b ∧ b < W.heap.size) → (fun b => ((P0 b ∧ b < N0) ∨ w.heap.size ≤ b) ∧ b ≠ g4 ∧ b ≠ g5 ∧ b ≠ g6) b ∧ some b ≠ v.ownBlock :=
 ⟨Kd.F_below (Foot.bound f) hb, fun b hk => ⟨hk.1, fun he => by have := Kd.N_base ho b he.symm; omega⟩⟩
theorem AtB.put3 (h : AtB w W P0 N0 g4 g5 g6 x p A3 c3 A4 c4 A5 c5 P3 d3 P4 d4 P5 d5) {A : Option Addr} {c n : Nat} (hn : n = (p.f3 ++ x.f3).length) (hl : (p.f3 ++ x.f3).length ≤ c) (f : Kd.F k24 W (fun b => ((P0 b ∧ b < N0) ∨ w.heap.size ≤ b) ∧ b ≠ g4 ∧ b ≠ g5 ∧ b ≠ g6) A (p.f3 ++ x.f3).length (p.f3 ++ x.f3)) : AtB w (W.setCell ⟨g5, 3, none⟩ (.slice A n c)) P0 N0 g4 g5 g6 ⟨x.f0, x.f1, x.f2, p.f3 ++ x.f3, x.f4, x.f5⟩ p A c A4 c4 A5 c5 P3 d3 P4 d4 P5 d5 := by
 subst hn
 exact ⟨below_set h.hb h.n5, h.n4, h.n5, h.e54, h.e56, blk_far h.k4 (Ne.symm h.e54) _, blk_put h.k5 3 _ rfl, blk_far h.k6 (Ne.symm h.e56) _, hl, (Kd.F_far (p := ⟨g5, 3, none⟩) f (fun b hb => hb.2.2.1) _), h.l4, (Kd.F_far (p := ⟨g5, 3, none⟩) h.x4 (fun b hb => hb.2.2.1) _), h.l5, (Kd.F_far (p := ⟨g5, 3, none⟩) h.x5 (fun b hb => hb.2.2.1) _), (Kd.F_far (p := ⟨g5, 3, none⟩) h.p3 (fun b hb => hb.2.2.1) _), (Kd.F_far (p := ⟨g5, 3, none⟩) h.p4 (fun b hb => hb.2.2.1) _), (Kd.F_far (p := ⟨g5, 3, none⟩) h.p5 (fun b hb => hb.2.2.1) _)⟩
theorem AtB.put4 (h : AtB w W P0 N0 g4 g5 g6 x p A3 c3 A4 c4 A5 c5 P3 d3 P4 d4 P5 d5) {A : Option Addr} {c n : Nat} (hn : n = (p.f4 ++ x.f4).length) (hl : (p.f4 ++ x.f4).length ≤ c) (f : Kd.F k96 W (fun b => ((P0 b ∧ b < N0) ∨ w.heap.size ≤ b) ∧ b ≠ g4 ∧ b ≠ g5 ∧ b ≠ g6) A (p.f4 ++ x.f4).length (p.f4 ++ x.f4)) : AtB w (W.setCell ⟨g5, 4, none⟩ (.slice A n c)) P0 N0 g4 g5 g6 ⟨x.f0, x.f1, x.f2, x.f3, p.f4 ++ x.f4, x.f5⟩ p A3 c3 A c A5 c5 P3 d3 P4 d4 P5 d5 := by
 subst hn
 exact ⟨below_set h.hb h.n5, h.n4, h.n5, h.e54, h.e56, blk_far h.k4 (Ne.symm h.e54) _, blk_put h.k5 4 _ rfl, blk_far h.k6 (Ne.symm h.e56) _, h.l3, (Kd.F_far (p := ⟨g5, 4, none⟩) h.x3 (fun b hb => hb.2.2.1) _), hl, (Kd.F_far (p := ⟨g5, 4, none⟩) f (fun b hb => hb.2.2.1) _), h.l5, (Kd.F_far (p := ⟨g5, 4, none⟩) h.x5 (fun b hb => hb.2.2.1) _), (Kd.F_far (p := ⟨g5, 4, none⟩) h.p3 (fun b hb => hb.2.2.1) _), (Kd.F_far (p := ⟨g5, 4, none⟩) h.p4 (fun b hb => hb.2.2.1) _), (Kd.F_far (p := ⟨g5, 4, none⟩) h.p5 (fun b hb => hb.2.2.1) _)⟩
theorem AtB.put5 (h : AtB w W P0 N0 g4 g5 g6 x p A3 c3 A4 c4 A5 c5 P3 d3 P4 d4 P5 d5) {A : Option Addr} {c n : Nat} (hn : n = (p.f5 ++ x.f5).length) (hl : (p.f5 ++ x.f5).length ≤ c) (f : Kd.F k31 W (fun b => ((P0 b ∧ b < N0) ∨ w.heap.size ≤ b) ∧ b ≠ g4 ∧ b ≠ g5 ∧ b ≠ g6) A (p.f5 ++ x.f5).length (p.f5 ++ x.f5)) : AtB w (W.setCell ⟨g5, 5, none⟩ (.slice A n c)) P0 N0 g4 g5 g6 ⟨x.f0, x.f1, x.f2, x.f3, x.f4, p.f5 ++ x.f5⟩ p A3 c3 A4 c4 A c P3 d3 P4 d4 P5 d5 := by
 subst hn
 exact ⟨below_set h.hb h.n5, h.n4, h.n5, h.e54, h.e56, blk_far h.k4 (Ne.symm h.e54) _, blk_put h.k5 5 _ rfl, blk_far h.k6 (Ne.symm h.e56) _, h.l3, (Kd.F_far (p := ⟨g5, 5, none⟩) h.x3 (fun b hb => hb.2.2.1) _), h.l4, (Kd.F_far (p := ⟨g5, 5, none⟩) h.x4 (fun b hb => hb.2.2.1) _), hl, (Kd.F_far (p := ⟨g5, 5, none⟩) f (fun b hb => hb.2.2.1) _), (Kd.F_far (p := ⟨g5, 5, none⟩) h.p3 (fun b hb => hb.2.2.1) _), (Kd.F_far (p := ⟨g5, 5, none⟩) h.p4 (fun b hb => hb.2.2.1) _), (Kd.F_far (p := ⟨g5, 5, none⟩) h.p5 (fun b hb => hb.2.2.1) _)⟩
theorem AtB.fin (h : AtB w W P0 N0 g4 g5 g6 x p A3 c3 A4 c4 A5 c5 P3 d3 P4 d4 P5 d5) : (set6 W g4 (.string x.f0) (.int .i64 x.f1) (.int .i64 x.f2) (.slice A3 x.f3.length c3) (.slice A4 x.f4.length c4) (.slice A5 x.f5.length c5)).heap[g4]? = some (.cells #[.string x.f0, .int .i64 x.f1, .int .i64 x.f2, .slice A3 x.f3.length c3, .slice A4 x.f4.length c4, .slice A5 x.f5.length c5] 35 (0, 0)) ∧ x.f3.length ≤ c3 ∧ Kd.F k24 (set6 W g4 (.string x.f0) (.int .i64 x.f1) (.int .i64 x.f2) (.slice A3 x.f3.length c3) (.slice A4 x.f4.length c4) (.slice A5 x.f5.length c5)) (fun b => (P0 b ∧ b < N0) ∨ w.heap.size ≤ b) A3 x.f3.length x.f3 ∧ x.f4.length ≤ c4 ∧ Kd.F k96 (set6 W g4 (.string x.f0) (.int .i64 x.f1) (.int .i64 x.f2) (.slice A3 x.f3.length c3) (.slice A4 x.f4.length c4) (.slice A5 x.f5.length c5)) (fun b => (P0 b ∧ b < N0) ∨ w.heap.size ≤ b) A4 x.f4.length x.f4 ∧ x.f5.length ≤ c5 ∧ Kd.F k31 (set6 W g4 (.string x.f0) (.int .i64 x.f1) (.int .i64 x.f2) (.slice A3 x.f3.length c3) (.slice A4 x.f4.length c4) (.slice A5 x.f5.length c5)) (fun b => (P0 b ∧ b < N0) ∨ w.heap.size ≤ b) A5 x.f5.length x.f5 ∧ Below w.heap.size w (set6 W g4 (.string x.f0) (.int .i64 x.f1) (.int .i64 x.f2) (.slice A3 x.f3.length c3) (.slice A4 x.f4.length c4) (.slice A5 x.f5.length c5)) := by
 have s : ∀ b, (fun b => ((P0 b ∧ b < N0) ∨ w.heap.size ≤ b) ∧ b ≠ g4 ∧ b ≠ g5 ∧ b ≠ g6) b → b < W.heap.size → (set6 W g4 (.string x.f0) (.int .i64 x.f1) (.int .i64 x.f2) (.slice A3 x.f3.length c3) (.slice A4 x.f4.length c4) (.slice A5 x.f5.length c5)).heap[b]? = W.heap[b]? := fun b hb _ => set6_far W g4 b (.string x.f0) (.int .i64 x.f1) (.int .i64 x.f2) (.slice A3 x.f3.length c3) (.slice A4 x.f4.length c4) (.slice A5 x.f5.length c5) hb.2.1
 exact ⟨set6_blk h.k4 _ _ _ _ _ _, h.l3, Kd.F_mono (Kd.F_step h.x3 s) (fun b hb => hb.1), h.l4, Kd.F_mono (Kd.F_step h.x4 s) (fun b hb => hb.1), h.l5, Kd.F_mono (Kd.F_step h.x5 s) (fun b hb => hb.1), set6_below _ _ _ _ _ _ h.hb h.n4⟩
theorem at_start {wR w6 : World} {M : Nat} {u0 u1 u2 u3 u4 u5 : Value} (hN : N0 ≤ w.heap.size) (hBR : Below w.heap.size w wR) (n4 : w.heap.size ≤ g4) (n5 : w.heap.size ≤ g5) (e54 : g5 ≠ g4) (s4 : g4 < M) (s5 : g5 < M) (sR : M ≤ wR.heap.size) (_sw : w.heap.size ≤ M)
  (k4 : wR.heap[g4]? = some (.cells #[.string (⟨#[]⟩ : ByteArray), .int .i64 0, .int .i64 0, .slice none 0 0, .slice none 0 0, .slice none 0 0] 35 (0, 0))) (k5 : wR.heap[g5]? = some (.cells #[.string x.f0, .int .i64 x.f1, .int .i64 x.f2, .slice A3 x.f3.length c3, .slice A4 x.f4.length c4, .slice A5 x.f5.length c5] 35 (0, 0))) (h6 : g6 = wR.heap.size) (hB6 : Below wR.heap.size wR w6) (k6 : w6.heap[g6]? = some (.cells #[u0, u1, u2, u3, u4, u5] 35 (0, 0)))
  (fx : x.f3.length ≤ c3 ∧ Kd.F k24 wR (fun b => P0 b ∧ b < N0) A3 x.f3.length x.f3 ∧ x.f4.length ≤ c4 ∧ Kd.F k96 wR (fun b => P0 b ∧ b < N0) A4 x.f4.length x.f4 ∧ x.f5.length ≤ c5 ∧ Kd.F k31 wR (fun b => P0 b ∧ b < N0) A5 x.f5.length x.f5)
  (fp : Kd.F k24 wR (fun b => (P0 b ∧ b < N0) ∨ M ≤ b) P3 p.f3.length p.f3 ∧ Kd.F k96 wR (fun b => (P0 b ∧ b < N0) ∨ M ≤ b) P4 p.f4.length p.f4 ∧ Kd.F k31 wR (fun b => (P0 b ∧ b < N0) ∨ M ≤ b) P5 p.f5.length p.f5) : AtB w (set6 w6 g6 (.string p.f0) (.int .i64 p.f1) (.int .i64 p.f2) (.slice P3 p.f3.length d3) (.slice P4 p.f4.length d4) (.slice P5 p.f5.length d5)) P0 N0 g4 g5 g6 x p A3 c3 A4 c4 A5 c5 P3 d3 P4 d4 P5 d5 := by
 have s : ∀ b, b < wR.heap.size → (set6 w6 g6 (.string p.f0) (.int .i64 p.f1) (.int .i64 p.f2) (.slice P3 p.f3.length d3) (.slice P4 p.f4.length d4) (.slice P5 p.f5.length d5)).heap[b]? = wR.heap[b]? := fun b hb => (set6_far w6 g6 b (.string p.f0) (.int .i64 p.f1) (.int .i64 p.f2) (.slice P3 p.f3.length d3) (.slice P4 p.f4.length d4) (.slice P5 p.f5.length d5) (by omega)).trans (hB6.block b hb)
 have ox : ∀ b, ((P0 b ∧ b < N0) ∧ b < wR.heap.size) → (fun b => ((P0 b ∧ b < N0) ∨ w.heap.size ≤ b) ∧ b ≠ g4 ∧ b ≠ g5 ∧ b ≠ g6) b := fun b hb => ⟨.inl hb.1, by omega, by omega, by omega⟩
 have op : ∀ b, (((P0 b ∧ b < N0) ∨ M ≤ b) ∧ b < wR.heap.size) → (fun b => ((P0 b ∧ b < N0) ∨ w.heap.size ≤ b) ∧ b ≠ g4 ∧ b ≠ g5 ∧ b ≠ g6) b := fun b hb => ⟨hb.1.elim .inl (fun h => .inr (by omega)), by rcases hb.1 with h | h <;> omega, by rcases hb.1 with h | h <;> omega, by omega⟩
 have fX : ∀ {α : Type} {d : Kd α} {A : Option Addr} {n : Nat} {xs : List α}, Kd.F d wR (fun b => P0 b ∧ b < N0) A n xs → Kd.F d (set6 w6 g6 (.string p.f0) (.int .i64 p.f1) (.int .i64 p.f2) (.slice P3 p.f3.length d3) (.slice P4 p.f4.length d4) (.slice P5 p.f5.length d5)) (fun b => ((P0 b ∧ b < N0) ∨ w.heap.size ≤ b) ∧ b ≠ g4 ∧ b ≠ g5 ∧ b ≠ g6) A n xs := fun f => Kd.F_mono (Kd.F_step (Foot.bound f) (fun b _ hb => s b hb)) ox
 have fP : ∀ {α : Type} {d : Kd α} {A : Option Addr} {n : Nat} {xs : List α}, Kd.F d wR (fun b => (P0 b ∧ b < N0) ∨ M ≤ b) A n xs → Kd.F d (set6 w6 g6 (.string p.f0) (.int .i64 p.f1) (.int .i64 p.f2) (.slice P3 p.f3.length d3) (.slice P4 p.f4.length d4) (.slice P5 p.f5.length d5)) (fun b => ((P0 b ∧ b < N0) ∨ w.heap.size ≤ b) ∧ b ≠ g4 ∧ b ≠ g5 ∧ b ≠ g6) A n xs := fun f => Kd.F_mono (Kd.F_step (Foot.bound f) (fun b _ hb => s b hb)) op
 exact ⟨set6_below _ _ _ _ _ _ (below_step hBR hB6) (by have := below_size hBR; omega), n4, n5, e54, by omega, (s g4 (by omega)).trans k4, (s g5 (by omega)).trans k5, set6_blk k6 _ _ _ _ _ _, fx.1, fX fx.2.1, fx.2.2.1, fX fx.2.2.2.1, fx.2.2.2.2.1, fX fx.2.2.2.2.2, fP fp.1, fP fp.2.1, fP fp.2.2⟩
end
theorem at_tab3 : rtab .any (opsOf Tryd.f35 5) = (true, [([], []), ([], []), ([1], [1]), ([0, 2], [0, 2]), ([], []), ([4], [4]), ([3, 5, 3], [3, 5]), ([0, 1, 2, 3, 4, 5, 6], []), ([7, 6, 6, 0, 1, 2, 3, 4, 5, 6], [6, 7])]) := by kernel_rfl
theorem at_bits3 : waitsOk [(([] : List Nat), ([] : List Nat)), ([], []), ([1], [1]), ([0, 2], [0, 2]), ([], []), ([4], [4]), ([3, 5, 3], [3, 5]), ([0, 1, 2, 3, 4, 5, 6], []), ([7, 6, 6, 0, 1, 2, 3, 4, 5, 6], [6, 7])] [0, 0, 2, 7, 0, 16, 63, 127, 255] = true := by kernel_rfl
theorem at_tab4 : rtab .any (opsOf Tryd.f35 6) = (true, [([], []), ([], []), ([1], [1]), ([0, 2], [0, 2]), ([], []), ([4], [4]), ([3, 5, 3], [3, 5]), ([0, 1, 2, 3, 4, 5, 6], []), ([7, 6, 6, 0, 1, 2, 3, 4, 5, 6], [6, 7])]) := by kernel_rfl
theorem at_bits4 : waitsOk [(([] : List Nat), ([] : List Nat)), ([], []), ([1], [1]), ([0, 2], [0, 2]), ([], []), ([4], [4]), ([3, 5, 3], [3, 5]), ([0, 1, 2, 3, 4, 5, 6], []), ([7, 6, 6, 0, 1, 2, 3, 4, 5, 6], [6, 7])] [0, 0, 2, 7, 0, 16, 63, 127, 255] = true := by kernel_rfl
theorem at_tab5 : rtab .any (opsOf Tryd.f35 7) = (true, [([], []), ([], []), ([1], [1]), ([0, 2], [0, 2]), ([], []), ([4], [4]), ([3, 5, 3], [3, 5]), ([0, 1, 2, 3, 4, 5, 6], []), ([7, 6, 6, 0, 1, 2, 3, 4, 5, 6], [6, 7])]) := by kernel_rfl
theorem at_bits5 : waitsOk [(([] : List Nat), ([] : List Nat)), ([], []), ([1], [1]), ([0, 2], [0, 2]), ([], []), ([4], [4]), ([3, 5, 3], [3, 5]), ([0, 1, 2, 3, 4, 5, 6], []), ([7, 6, 6, 0, 1, 2, 3, 4, 5, 6], [6, 7])] [0, 0, 2, 7, 0, 16, 63, 127, 255] = true := by kernel_rfl
set_option maxHeartbeats 8000000 in
set_option maxRecDepth 100000 in
theorem loc_at_walk : ∀ (k : Nat) (l : List S35) (i : Int) (r : S35) (P0 : Nat → Prop) (N0 : Nat) (A0 : Option Addr) (c0 : Nat) (w : World), N0 ≤ w.heap.size → Kd.F k35 w (fun b => P0 b ∧ b < N0) A0 l.length l → l.length ≤ c0 → atF k l i = some r →
  Calls Tryd.prog 35 #[.slice A0 l.length c0, .int .i64 i] w fun e w' => ∃ A3 c3 A4 c4 A5 c5, e = .returned (.agg #[.string r.f0, .int .i64 r.f1, .int .i64 r.f2, .slice A3 r.f3.length c3, .slice A4 r.f4.length c4, .slice A5 r.f5.length c5]) ∧ r.f3.length ≤ c3 ∧ Kd.F k24 w' (fun b => (P0 b ∧ b < N0) ∨ w.heap.size ≤ b) A3 r.f3.length r.f3 ∧ r.f4.length ≤ c4 ∧ Kd.F k96 w' (fun b => (P0 b ∧ b < N0) ∨ w.heap.size ≤ b) A4 r.f4.length r.f4 ∧ r.f5.length ≤ c5 ∧ Kd.F k31 w' (fun b => (P0 b ∧ b < N0) ∨ w.heap.size ≤ b) A5 r.f5.length r.f5 ∧ Below w.heap.size w w'
 | 0, _, _, _, _, _, _, _, _, _, _, _, h => by cases h
 | k + 1, l, i, r, P0, N0, A0, c0, w, hN, hF, hc, h => by
  have hu32 := Tryd.underlying35
  have hu62 := Tryd.underlying61
  have HN := Aside0.mk hN
  have HF := Aside0.mk hF
  have HC := Aside0.mk hc
  have HB := Aside0.mk (Below.refl w.heap.size w)
  simp only [atF] at h
  by_cases hi : 0 ≤ i ∧ i < (l.length : Int)
  ·rw [if_pos hi] at h
   obtain ⟨x, hx⟩ : ∃ x, x = rd_T35 l i := ⟨_, rfl⟩
   rw [← hx] at h
   have H := Aside0.mk h
   have HX := Aside0.mk hx
   have p0 := hi.1
   have q0 := hi.2
   clear h hF hN hc hx
   by_cases hneg : x.f1 < 0
   ·have cneg : decide (x.f1 < 0) = true := decide_eq_true hneg
    go_enter Tryd.func35, Tryd.ntmps35
    go_wp2_with (first
     | ((with_reducible refine gate_dst (N := 4) rfl ?_); refine box_event ?hg (N := 4) ?hd (cs := #[.string (⟨#[]⟩ : ByteArray), .int .i64 0, .int .i64 0, .slice none 0 0, .slice none 0 0, .slice none 0 0]) (t := 35) ?hr ?_; (case hd => rfl); (case hg => rfl); (case hr => first | (go_simp; done) | (go_simp; rfl)); intro g4 hg4 w4 hbox hb; have G4 := Aside0.mk (Nat.le_of_eq hg4.symm); have B4 := Aside0.mk hbox; have HB4 := Aside0.mk hb; have HF4 := Aside0.mk (Kd.F_below HF.out hb); obtain ⟨ad, A3, c3, A4, c4, A5, c5, e, hx0, hx1, hx2, hx3, hx4, hx5, l3, f3, l4, f4, l5, f5⟩ := at_F HF4.out i p0 q0 x HX.out; subst e; have HR := Aside0.mk (And.intro l3 (And.intro f3 (And.intro l4 (And.intro f4 (And.intro l5 f5))))); clear l3 f3 l4 f4 l5 f5 hbox hb hg4)
     | ((with_reducible refine gate_dst (N := 5) rfl ?_); refine box_event ?hg (N := 5) ?hd (cs := #[.string (⟨#[]⟩ : ByteArray), .int .i64 0, .int .i64 0, .slice none 0 0, .slice none 0 0, .slice none 0 0]) (t := 35) ?hr ?_; (case hd => rfl); (case hg => rfl); (case hr => first | (go_simp; done) | (go_simp; rfl)); intro g5 hg5 w5 hbox hb; have hn54 : g5 ≠ g4 := (by have := blk_lt B4.out; omega); have hn45 : g4 ≠ g5 := fun e => hn54 e.symm; have G5 := Aside0.mk (Nat.le_of_eq hg5.symm); have B5 := Aside0.mk hbox; have C4 := Aside0.mk (blk_below B4.out hb); have HB5 := Aside0.mk hb; clear hbox hb hg5 hx0 hx1 hx2 hx3 hx4 hx5; have pz0 : w5.cell? ⟨g5, 0, none⟩ = some (.string (⟨#[]⟩ : ByteArray)) := (blk_cell B5.out 0).trans rfl; have pf0 := blk_frozen B5.out 0; have pz1 : w5.cell? ⟨g5, 1, none⟩ = some (.int .i64 0) := (blk_cell B5.out 1).trans rfl; have pf1 := blk_frozen B5.out 1; have pz2 : w5.cell? ⟨g5, 2, none⟩ = some (.int .i64 0) := (blk_cell B5.out 2).trans rfl; have pf2 := blk_frozen B5.out 2; have pz3 : w5.cell? ⟨g5, 3, none⟩ = some (.slice none 0 0) := (blk_cell B5.out 3).trans rfl; have pf3 := blk_frozen B5.out 3; have pz4 : w5.cell? ⟨g5, 4, none⟩ = some (.slice none 0 0) := (blk_cell B5.out 4).trans rfl; have pf4 := blk_frozen B5.out 4; have pz5 : w5.cell? ⟨g5, 5, none⟩ = some (.slice none 0 0) := (blk_cell B5.out 5).trans rfl; have pf5 := blk_frozen B5.out 5; have qz0 : w5.cell? ⟨g4, 0, none⟩ = some (.string (⟨#[]⟩ : ByteArray)) := (blk_cell C4.out 0).trans rfl; have qf0 := blk_frozen C4.out 0; have qz1 : w5.cell? ⟨g4, 1, none⟩ = some (.int .i64 0) := (blk_cell C4.out 1).trans rfl; have qf1 := blk_frozen C4.out 1; have qz2 : w5.cell? ⟨g4, 2, none⟩ = some (.int .i64 0) := (blk_cell C4.out 2).trans rfl; have qf2 := blk_frozen C4.out 2; have qz3 : w5.cell? ⟨g4, 3, none⟩ = some (.slice none 0 0) := (blk_cell C4.out 3).trans rfl; have qf3 := blk_frozen C4.out 3; have qz4 : w5.cell? ⟨g4, 4, none⟩ = some (.slice none 0 0) := (blk_cell C4.out 4).trans rfl; have qf4 := blk_frozen C4.out 4; have qz5 : w5.cell? ⟨g4, 5, none⟩ = some (.slice none 0 0) := (blk_cell C4.out 5).trans rfl; have qf5 := blk_frozen C4.out 5))
    have H' := H.out
    rw [if_pos hneg] at H'
    obtain rfl := Option.some.inj H'
    have B4' := set6_blk ((set6_far w5 g5 g4 (.string x.f0) (.int .i64 x.f1) (.int .i64 x.f2) (.slice A3 x.f3.length c3) (.slice A4 x.f4.length c4) (.slice A5 x.f5.length c5) hn45).trans C4.out) (.string x.f0) (.int .i64 x.f1) (.int .i64 x.f2) (.slice A3 x.f3.length c3) (.slice A4 x.f4.length c4) (.slice A5 x.f5.length c5)
    obtain ⟨l3, f3, l4, f4, l5, f5⟩ := HR.out
    have HB' := set6_below (.string x.f0) (.int .i64 x.f1) (.int .i64 x.f2) (.slice A3 x.f3.length c3) (.slice A4 x.f4.length c4) (.slice A5 x.f5.length c5) (set6_below (.string x.f0) (.int .i64 x.f1) (.int .i64 x.f2) (.slice A3 x.f3.length c3) (.slice A4 x.f4.length c4) (.slice A5 x.f5.length c5) (below_step HB4.out HB5.out) (g := g5) (Nat.le_trans (below_size HB4.out) G5.out)) G4.out
    have hst : ∀ b, (P0 b ∧ b < N0) → b < w4.heap.size → (set6 (set6 w5 g5 (.string x.f0) (.int .i64 x.f1) (.int .i64 x.f2) (.slice A3 x.f3.length c3) (.slice A4 x.f4.length c4) (.slice A5 x.f5.length c5)) g4 (.string x.f0) (.int .i64 x.f1) (.int .i64 x.f2) (.slice A3 x.f3.length c3) (.slice A4 x.f4.length c4) (.slice A5 x.f5.length c5)).heap[b]? = w4.heap[b]? := fun b hb hb4 => by
     have := HN.out
     have := G4.out
     have := G5.out
     rw [set6_far _ _ _ _ _ _ _ _ _ (by omega), set6_far _ _ _ _ _ _ _ _ _ (by omega), HB5.out.block b hb4]
    refine bodyPost_ret (results_cell_row rfl _ _ g4 35 #[.string x.f0, .int .i64 x.f1, .int .i64 x.f2, .slice A3 x.f3.length c3, .slice A4 x.f4.length c4, .slice A5 x.f5.length c5] (0, 0) _ rfl B4' Tryd.underlying35 rfl (by kernel_rfl)) rfl ?_
    exact ⟨A3, c3, A4, c4, A5, c5, by first | rfl | simp, l3, Kd.F_mono (Kd.F_step f3 hst) (fun b hb => Or.inl hb), l4, Kd.F_mono (Kd.F_step f4 hst) (fun b hb => Or.inl hb), l5, Kd.F_mono (Kd.F_step f5 hst) (fun b hb => Or.inl hb), HB'⟩
   ·have cneg : decide (x.f1 < 0) = false := decide_eq_false hneg
    have H' := H.out
    rw [if_neg hneg] at H'
    obtain ⟨p, hp, H'⟩ := Option.bind_eq_some_iff.mp H'
    by_cases hl : p.f3.length + x.f3.length < 1000000 ∧ p.f4.length + x.f4.length < 1000000 ∧ p.f5.length + x.f5.length < 1000000
    ·rw [if_pos hl] at H'
     obtain rfl := Option.some.inj H'
     have HL := Aside0.mk hl
     have HP := Aside0.mk hp
     clear hp hl H H'
     go_enter Tryd.func35, Tryd.ntmps35
     go_wp2_with (first
      | ((with_reducible refine gate_dst (N := 4) rfl ?_); refine box_event ?hg (N := 4) ?hd (cs := #[.string (⟨#[]⟩ : ByteArray), .int .i64 0, .int .i64 0, .slice none 0 0, .slice none 0 0, .slice none 0 0]) (t := 35) ?hr ?_; (case hd => rfl); (case hg => rfl); (case hr => first | (go_simp; done) | (go_simp; rfl)); intro g4 hg4 w4 hbox hb; have G4 := Aside0.mk (Nat.le_of_eq hg4.symm); have B4 := Aside0.mk hbox; have HB4 := Aside0.mk hb; have HF4 := Aside0.mk (Kd.F_below HF.out hb); obtain ⟨ad, A3, c3, A4, c4, A5, c5, e, hx0, hx1, hx2, hx3, hx4, hx5, l3, f3, l4, f4, l5, f5⟩ := at_F HF4.out i p0 q0 x HX.out; subst e; have HR := Aside0.mk (And.intro l3 (And.intro f3 (And.intro l4 (And.intro f4 (And.intro l5 f5))))); clear l3 f3 l4 f4 l5 f5 hbox hb hg4)
      | ((with_reducible refine gate_dst (N := 5) rfl ?_); refine box_event ?hg (N := 5) ?hd (cs := #[.string (⟨#[]⟩ : ByteArray), .int .i64 0, .int .i64 0, .slice none 0 0, .slice none 0 0, .slice none 0 0]) (t := 35) ?hr ?_; (case hd => rfl); (case hg => rfl); (case hr => first | (go_simp; done) | (go_simp; rfl)); intro g5 hg5 w5 hbox hb; have hn54 : g5 ≠ g4 := (by have := blk_lt B4.out; omega); have hn45 : g4 ≠ g5 := fun e => hn54 e.symm; have G5 := Aside0.mk (Nat.le_of_eq hg5.symm); have B5 := Aside0.mk hbox; have C4 := Aside0.mk (blk_below B4.out hb); have HB5 := Aside0.mk hb; clear hbox hb hg5 hx0 hx1 hx2 hx3 hx4 hx5; have pz0 : w5.cell? ⟨g5, 0, none⟩ = some (.string (⟨#[]⟩ : ByteArray)) := (blk_cell B5.out 0).trans rfl; have pf0 := blk_frozen B5.out 0; have pz1 : w5.cell? ⟨g5, 1, none⟩ = some (.int .i64 0) := (blk_cell B5.out 1).trans rfl; have pf1 := blk_frozen B5.out 1; have pz2 : w5.cell? ⟨g5, 2, none⟩ = some (.int .i64 0) := (blk_cell B5.out 2).trans rfl; have pf2 := blk_frozen B5.out 2; have pz3 : w5.cell? ⟨g5, 3, none⟩ = some (.slice none 0 0) := (blk_cell B5.out 3).trans rfl; have pf3 := blk_frozen B5.out 3; have pz4 : w5.cell? ⟨g5, 4, none⟩ = some (.slice none 0 0) := (blk_cell B5.out 4).trans rfl; have pf4 := blk_frozen B5.out 4; have pz5 : w5.cell? ⟨g5, 5, none⟩ = some (.slice none 0 0) := (blk_cell B5.out 5).trans rfl; have pf5 := blk_frozen B5.out 5; have qz0 : w5.cell? ⟨g4, 0, none⟩ = some (.string (⟨#[]⟩ : ByteArray)) := (blk_cell C4.out 0).trans rfl; have qf0 := blk_frozen C4.out 0; have qz1 : w5.cell? ⟨g4, 1, none⟩ = some (.int .i64 0) := (blk_cell C4.out 1).trans rfl; have qf1 := blk_frozen C4.out 1; have qz2 : w5.cell? ⟨g4, 2, none⟩ = some (.int .i64 0) := (blk_cell C4.out 2).trans rfl; have qf2 := blk_frozen C4.out 2; have qz3 : w5.cell? ⟨g4, 3, none⟩ = some (.slice none 0 0) := (blk_cell C4.out 3).trans rfl; have qf3 := blk_frozen C4.out 3; have qz4 : w5.cell? ⟨g4, 4, none⟩ = some (.slice none 0 0) := (blk_cell C4.out 4).trans rfl; have qf4 := blk_frozen C4.out 4; have qz5 : w5.cell? ⟨g4, 5, none⟩ = some (.slice none 0 0) := (blk_cell C4.out 5).trans rfl; have qf5 := blk_frozen C4.out 5)
      | (go_at_call 35; have hst := at_base (P0 := P0) (N0 := N0) HN.out HB4.out G4.out G5.out hn45 C4.out B5.out HB5.out (.string x.f0) (.int .i64 x.f1) (.int .i64 x.f2) (.slice A3 x.f3.length c3) (.slice A4 x.f4.length c4) (.slice A5 x.f5.length c5); (with_reducible refine (loc_at_walk k l x.f1 p P0 N0 (some ad) c0 _ (Nat.le_trans HN.out (below_size hst.1)) (Kd.F_step HF4.out hst.2.1) HC.out HP.out).mono ?_); rintro e wR ⟨P3, d3, P4, d4, P5, d5, rfl, m3, y3, m4, y4, m5, y5, hbR⟩; have HBR := Aside0.mk (below_step hst.1 hbR); have K4R := Aside0.mk (blk_below hst.2.2.1 hbR); have K5R := Aside0.mk (blk_below hst.2.2.2.1 hbR); have FR := Aside0.mk (And.intro HR.out.1 (And.intro (Kd.F_below (Kd.F_step HR.out.2.1 hst.2.1) hbR) (And.intro HR.out.2.2.1 (And.intro (Kd.F_below (Kd.F_step HR.out.2.2.2.1 hst.2.1) hbR) (And.intro HR.out.2.2.2.2.1 (Kd.F_below (Kd.F_step HR.out.2.2.2.2.2 hst.2.1) hbR)))))); have FP := Aside0.mk (And.intro y3 (And.intro y4 y5)); have SZ := Aside0.mk hst.2.2.2.2; have SW := Aside0.mk (below_size hst.1); have SR := Aside0.mk (below_size hbR); have N5 := Aside0.mk (Nat.le_trans (below_size HB4.out) G5.out); clear hst y3 y4 y5 m3 m4 m5 hbR B4 HB4 B5 C4 HB5 HF4 HR pz0 pf0 pz1 pf1 pz2 pf2 pz3 pf3 pz4 pf4 pz5 pf5 qz0 qf0 qz1 qf1 qz2 qf2 qz3 qf3 qz4 qf4 qz5 qf5)
      | ((with_reducible refine gate_dst (N := 6) rfl ?_); refine box_event ?hg (N := 6) ?hd (cs := #[.string (⟨#[]⟩ : ByteArray), .int .i64 0, .int .i64 0, .slice none 0 0, .slice none 0 0, .slice none 0 0]) (t := 35) ?hr ?_; (case hd => rfl); (case hg => rfl); (case hr => first | (go_simp; done) | (go_simp; rfl)); intro g6 hg6 w6 hbox hb; have G6 := Aside0.mk hg6; have B6 := Aside0.mk hbox; have HB6 := Aside0.mk hb; clear hbox hb hg6; have rz0 : w6.cell? ⟨g6, 0, none⟩ = some (.string (⟨#[]⟩ : ByteArray)) := (blk_cell B6.out 0).trans rfl; have rf0 := blk_frozen B6.out 0; have rz1 : w6.cell? ⟨g6, 1, none⟩ = some (.int .i64 0) := (blk_cell B6.out 1).trans rfl; have rf1 := blk_frozen B6.out 1; have rz2 : w6.cell? ⟨g6, 2, none⟩ = some (.int .i64 0) := (blk_cell B6.out 2).trans rfl; have rf2 := blk_frozen B6.out 2; have rz3 : w6.cell? ⟨g6, 3, none⟩ = some (.slice none 0 0) := (blk_cell B6.out 3).trans rfl; have rf3 := blk_frozen B6.out 3; have rz4 : w6.cell? ⟨g6, 4, none⟩ = some (.slice none 0 0) := (blk_cell B6.out 4).trans rfl; have rf4 := blk_frozen B6.out 4; have rz5 : w6.cell? ⟨g6, 5, none⟩ = some (.slice none 0 0) := (blk_cell B6.out 5).trans rfl; have rf5 := blk_frozen B6.out 5))
     have HA := Aside0.mk (at_start (d3 := d3) (d4 := d4) (d5 := d5) HN.out HBR.out G4.out N5.out hn54 SZ.out.1 SZ.out.2 SR.out SW.out K4R.out K5R.out G6.out HB6.out B6.out FR.out FP.out)
     clear HN HF HC HB HP HX p0 q0 hi hneg HBR K4R K5R G4 G5 G6 B6 HB6 FR FP SZ SW SR N5 hn54 hn45
     have HA2 := Aside0.mk (AtB.on HA.out (below_drew1 (Below.refl _ _)))
     refine start_ (n := 9) (S := fun w' => w'.cell? ⟨g6, 3, none⟩ = some (.slice P3 p.f3.length d3) ∧ w'.cell? ⟨g5, 3, none⟩ = some (.slice A3 x.f3.length c3)) (ds := [8]) #[false, false, false, false, false, false, false, false, false] (by kernel_rfl) rfl rfl ⟨(blk_cell HA2.out.k6 3).trans rfl, (blk_cell HA2.out.k5 3).trans rfl⟩ (fun hHeld => ?_)
     refine with_tabW at_tab3 at_bits3 (fun HT_ HW_ => ?_)
     clear HA
     have HA := HA2
     clear HA2
     generalize World.drew _ = wd at HA hHeld ⊢
     refine pure_ (i := 1) (N := some 20) (v := ?_) (a' := ?_) #[false, true, false, false, false, false, false, false, false] rfl rfl (any_of HT_.out (by kernel_rfl)) (fun _ _ _ h => h) (Or.inl ⟨by rfl, ?_⟩) ?_ ?_
     rotate_left
     ·intro w'
      go_simp
      with_reducible rfl
     rotate_left
     ·simp only [Act.put, List.setIfInBounds_toArray, List.set_cons_zero, List.set_cons_succ, i64_w, i32_w]
      rfl
     refine pure_ (i := 4) (N := some 23) (v := ?_) (a' := ?_) #[false, true, false, false, true, false, false, false, false] rfl rfl (any_of HT_.out (by kernel_rfl)) (fun _ _ _ h => h) (Or.inl ⟨by rfl, ?_⟩) ?_ ?_
     rotate_left
     ·intro w'
      go_simp
      with_reducible rfl
     rotate_left
     ·simp only [Act.put, List.setIfInBounds_toArray, List.set_cons_zero, List.set_cons_succ, i64_w, i32_w]
      rfl
     refine take_ (i := 2) (N := some 21) (v := ?_) (a' := ?_) #[false, true, true, false, true, false, false, false, false] rfl rfl (take_ofW HT_.out HW_.out (by kernel_rfl)) (fun _ _ _ h => h) (Or.inl ⟨by rfl, ?_⟩) hHeld ?_ ?_
     rotate_left
     ·rintro w' ⟨s0, s1⟩
      go_simp
      with_reducible rfl
     rotate_left
     ·simp only [Act.put, List.setIfInBounds_toArray, List.set_cons_zero, List.set_cons_succ, i64_w, i32_w]
      rfl
     refine take_ (i := 5) (N := some 24) (v := ?_) (a' := ?_) #[false, true, true, false, true, true, false, false, false] rfl rfl (take_ofW HT_.out HW_.out (by kernel_rfl)) (fun _ _ _ h => h) (Or.inl ⟨by rfl, ?_⟩) hHeld ?_ ?_
     rotate_left
     ·rintro w' ⟨s0, s1⟩
      go_simp
      with_reducible rfl
     rotate_left
     ·simp only [Act.put, List.setIfInBounds_toArray, List.set_cons_zero, List.set_cons_succ, i64_w, i32_w]
      rfl
     refine one_ (i := 0) (N := some 19) #[true, true, true, false, true, true, false, false, false] rfl rfl (one_of HT_.out (by kernel_rfl)) (by decide) (fun K hK => ?_)
     refine Kd.R_lit_step k24 wd.heap.size 24 ?hg (N := 19) ?hd (xs := ([] : List S24)) (inner := []) (ok := fun b => wd.heap.size ≤ b) (okp := fun b => wd.heap.size ≤ b) ?hr ?hp (fun _ hk => hk) (Nat.le_refl _) (Below.refl _ _) (Nat.le_refl _) (by simp) ?_; (case hd => rfl); (case hg => rfl); (case hr => first | (go_simp; done) | (go_simp; rfl)); (case hp => exact (Reps.none _ _))
     intro v19 w19 ho hb hg_ hn_
     clear hg_ hn_
     have HO := Aside0.mk (Kd.N_mono (Kd.R_N ho) HA.out.ok)
     have HD := Aside0.mk hb
     clear ho hb
     refine hK.out _ _ ⟨(blk_cell (AtB.on HA.out HD.out).k6 3).trans rfl, (blk_cell (AtB.on HA.out HD.out).k5 3).trans rfl⟩ (fun hHeld => ?_)
     clear hK K
     refine norm_ (a' := ?_) ?_ ?_
     rotate_left
     ·show Act.put _ (some 19) _ = _
      simp only [Act.put, List.setIfInBounds_toArray, List.set_cons_zero, List.set_cons_succ, i64_w, i32_w]
      rfl
     refine one_ (i := 3) (N := some 22) #[true, true, true, true, true, true, false, false, false] rfl rfl (one_of HT_.out (by kernel_rfl)) (by decide) (fun K hK => ?_)
     have hap := AtB.old HA.out.p3 HD.out HO.out
     refine Kd.N_append_rows_step k24 (w0 := wd) wd.heap.size (by rfl) (.tmp 19) (.tmp 21) 25 24 (.agg #[(.string ⟨#[]⟩), (.int .i64 0), (.int .i64 0)]) 32 rfl Tryd.underlying25 info24 rfl (by decide) (by omega) v19 [] p.f3 _ _ _ (fun b => ((P0 b ∧ b < N0) ∨ w.heap.size ≤ b) ∧ b ≠ g4 ∧ b ≠ g5 ∧ b ≠ g6) _ rfl rfl HO.out hap.1 hap.2 ?aF HD.out (below_size HD.out) ?aL ?_
     (case aF => exact fun b hk => HA.out.ok b (Nat.le_trans (below_size HD.out) hk))
     (case aL => have := HL.out; simp only [List.nil_append, List.length_nil]; omega)
     intro v22 w22 ho hb hg_ hn_
     clear hg_ hn_ hap HO HD
     have HO := Aside0.mk ho
     have HD := Aside0.mk hb
     clear ho hb
     refine hK.out _ _ ⟨(blk_cell (AtB.on HA.out HD.out).k6 3).trans rfl, (blk_cell (AtB.on HA.out HD.out).k5 3).trans rfl⟩ (fun hHeld => ?_)
     clear hK K
     refine norm_ (a' := ?_) ?_ ?_
     rotate_left
     ·show Act.put _ (some 22) _ = _
      simp only [Act.put, List.setIfInBounds_toArray, List.set_cons_zero, List.set_cons_succ, i64_w, i32_w]
      rfl
     refine one_ (i := 6) (N := some 25) #[true, true, true, true, true, true, true, false, false] rfl rfl (one_of HT_.out (by kernel_rfl)) (by decide) (fun K hK => ?_)
     have hap := AtB.old HA.out.x3 HD.out HO.out
     refine Kd.N_append_rows_step k24 (w0 := wd) wd.heap.size (by rfl) (.tmp 22) (.tmp 24) 25 24 (.agg #[(.string ⟨#[]⟩), (.int .i64 0), (.int .i64 0)]) 32 rfl Tryd.underlying25 info24 rfl (by decide) (by omega) v22 ([] ++ p.f3) x.f3 _ _ _ (fun b => ((P0 b ∧ b < N0) ∨ w.heap.size ≤ b) ∧ b ≠ g4 ∧ b ≠ g5 ∧ b ≠ g6) _ rfl rfl HO.out hap.1 hap.2 ?aF HD.out (below_size HD.out) ?aL ?_
     (case aF => exact fun b hk => HA.out.ok b (Nat.le_trans (below_size HD.out) hk))
     (case aL => have := HL.out; simp only [List.nil_append, List.length_nil]; omega)
     intro v25 w25 ho hb hg_ hn_
     clear hg_ hn_ hap HO HD
     have HO := Aside0.mk ho
     have HD := Aside0.mk hb
     clear ho hb
     rw [List.nil_append] at HO
     obtain ⟨B3, b3, e⟩ := Kd.N_slice HO.out
     subst e
     refine hK.out _ _ ⟨(blk_cell (AtB.on HA.out HD.out).k6 3).trans rfl, (blk_cell (AtB.on HA.out HD.out).k5 3).trans rfl⟩ (fun hHeld => ?_)
     clear hK K
     refine norm_ (a' := ?_) ?_ ?_
     rotate_left
     ·show Act.put _ (some 25) _ = _
      simp only [Act.put, List.setIfInBounds_toArray, List.set_cons_zero, List.set_cons_succ, i64_w, i32_w]
      rfl
     refine pure_ (i := 7) (N := some 26) (v := ?_) (a' := ?_) #[true, true, true, true, true, true, true, true, false] rfl rfl (any_of HT_.out (by kernel_rfl)) (fun _ _ _ h => h) (Or.inl ⟨by rfl, ?_⟩) ?_ ?_
     rotate_left
     ·intro w'
      go_simp
      with_reducible rfl
     rotate_left
     ·simp only [Act.put, List.setIfInBounds_toArray, List.set_cons_zero, List.set_cons_succ, i64_w, i32_w]
      rfl
     refine last_ (i := 8) (N := none) #[true, true, true, true, true, true, true, true, true] rfl rfl (one_of HT_.out (by kernel_rfl)) (by decide) (fun K hK => ?_)
     have HA3 := Aside0.mk (AtB.put3 (n := p.f3.length + x.f3.length) (AtB.on HA.out HD.out) List.length_append.symm (Kd.N_reads' HO.out).2.1 (Kd.N_F HO.out))
     have hs9 : w25.cell? ⟨g5, 3, none⟩ = some (.slice A3 x.f3.length c3) := (blk_cell (AtB.on HA.out HD.out).k5 3).trans rfl
     have hf9 := blk_frozen (AtB.on HA.out HD.out).k5 3
     refine skip_ (w1 := ?_) (by rfl) rfl ?_ ?_
     rotate_left
     ·go_simp
      rfl
     refine hK.out _ _ ?_
     refine done_ (done_of HT_.out (by kernel_rfl)) ?_
     clear hK K hs9 hf9 HO HD HA hHeld HT_ HW_
     have HA := HA3
     clear HA3
     go_wp2
     have HA2 := Aside0.mk (AtB.on HA.out (below_drew1 (Below.refl _ _)))
     refine start_ (n := 9) (S := fun w' => w'.cell? ⟨g6, 4, none⟩ = some (.slice P4 p.f4.length d4) ∧ w'.cell? ⟨g5, 4, none⟩ = some (.slice A4 x.f4.length c4)) (ds := [8]) #[false, false, false, false, false, false, false, false, false] (by kernel_rfl) rfl rfl ⟨(blk_cell HA2.out.k6 4).trans rfl, (blk_cell HA2.out.k5 4).trans rfl⟩ (fun hHeld => ?_)
     refine with_tabW at_tab4 at_bits4 (fun HT_ HW_ => ?_)
     clear HA
     have HA := HA2
     clear HA2
     generalize World.drew _ = wd at HA hHeld ⊢
     refine pure_ (i := 1) (N := some 28) (v := ?_) (a' := ?_) #[false, true, false, false, false, false, false, false, false] rfl rfl (any_of HT_.out (by kernel_rfl)) (fun _ _ _ h => h) (Or.inl ⟨by rfl, ?_⟩) ?_ ?_
     rotate_left
     ·intro w'
      go_simp
      with_reducible rfl
     rotate_left
     ·simp only [Act.put, List.setIfInBounds_toArray, List.set_cons_zero, List.set_cons_succ, i64_w, i32_w]
      rfl
     refine pure_ (i := 4) (N := some 31) (v := ?_) (a' := ?_) #[false, true, false, false, true, false, false, false, false] rfl rfl (any_of HT_.out (by kernel_rfl)) (fun _ _ _ h => h) (Or.inl ⟨by rfl, ?_⟩) ?_ ?_
     rotate_left
     ·intro w'
      go_simp
      with_reducible rfl
     rotate_left
     ·simp only [Act.put, List.setIfInBounds_toArray, List.set_cons_zero, List.set_cons_succ, i64_w, i32_w]
      rfl
     refine take_ (i := 2) (N := some 29) (v := ?_) (a' := ?_) #[false, true, true, false, true, false, false, false, false] rfl rfl (take_ofW HT_.out HW_.out (by kernel_rfl)) (fun _ _ _ h => h) (Or.inl ⟨by rfl, ?_⟩) hHeld ?_ ?_
     rotate_left
     ·rintro w' ⟨s0, s1⟩
      go_simp
      with_reducible rfl
     rotate_left
     ·simp only [Act.put, List.setIfInBounds_toArray, List.set_cons_zero, List.set_cons_succ, i64_w, i32_w]
      rfl
     refine take_ (i := 5) (N := some 32) (v := ?_) (a' := ?_) #[false, true, true, false, true, true, false, false, false] rfl rfl (take_ofW HT_.out HW_.out (by kernel_rfl)) (fun _ _ _ h => h) (Or.inl ⟨by rfl, ?_⟩) hHeld ?_ ?_
     rotate_left
     ·rintro w' ⟨s0, s1⟩
      go_simp
      with_reducible rfl
     rotate_left
     ·simp only [Act.put, List.setIfInBounds_toArray, List.set_cons_zero, List.set_cons_succ, i64_w, i32_w]
      rfl
     refine one_ (i := 0) (N := some 27) #[true, true, true, false, true, true, false, false, false] rfl rfl (one_of HT_.out (by kernel_rfl)) (by decide) (fun K hK => ?_)
     refine Kd.R_lit_step k96 wd.heap.size 96 ?hg (N := 27) ?hd (xs := ([] : List S96)) (inner := []) (ok := fun b => wd.heap.size ≤ b) (okp := fun b => wd.heap.size ≤ b) ?hr ?hp (fun _ hk => hk) (Nat.le_refl _) (Below.refl _ _) (Nat.le_refl _) (by simp) ?_; (case hd => rfl); (case hg => rfl); (case hr => first | (go_simp; done) | (go_simp; rfl)); (case hp => exact (Reps.none _ _))
     intro v19 w19 ho hb hg_ hn_
     clear hg_ hn_
     have HO := Aside0.mk (Kd.N_mono (Kd.R_N ho) HA.out.ok)
     have HD := Aside0.mk hb
     clear ho hb
     refine hK.out _ _ ⟨(blk_cell (AtB.on HA.out HD.out).k6 4).trans rfl, (blk_cell (AtB.on HA.out HD.out).k5 4).trans rfl⟩ (fun hHeld => ?_)
     clear hK K
     refine norm_ (a' := ?_) ?_ ?_
     rotate_left
     ·show Act.put _ (some 27) _ = _
      simp only [Act.put, List.setIfInBounds_toArray, List.set_cons_zero, List.set_cons_succ, i64_w, i32_w]
      rfl
     refine one_ (i := 3) (N := some 30) #[true, true, true, true, true, true, false, false, false] rfl rfl (one_of HT_.out (by kernel_rfl)) (by decide) (fun K hK => ?_)
     have hap := AtB.old HA.out.p4 HD.out HO.out
     refine Kd.N_append_rows_step k96 (w0 := wd) wd.heap.size (by rfl) (.tmp 27) (.tmp 29) 33 96 (.agg #[(.int .i64 0), (.slice none 0 0), (.int .i64 0), (.slice none 0 0), (.int .i64 0)]) 72 rfl Tryd.underlying33 info96 rfl (by decide) (by omega) v19 [] p.f4 _ _ _ (fun b => ((P0 b ∧ b < N0) ∨ w.heap.size ≤ b) ∧ b ≠ g4 ∧ b ≠ g5 ∧ b ≠ g6) _ rfl rfl HO.out hap.1 hap.2 ?aF HD.out (below_size HD.out) ?aL ?_
     (case aF => exact fun b hk => HA.out.ok b (Nat.le_trans (below_size HD.out) hk))
     (case aL => have := HL.out; simp only [List.nil_append, List.length_nil]; omega)
     intro v22 w22 ho hb hg_ hn_
     clear hg_ hn_ hap HO HD
     have HO := Aside0.mk ho
     have HD := Aside0.mk hb
     clear ho hb
     refine hK.out _ _ ⟨(blk_cell (AtB.on HA.out HD.out).k6 4).trans rfl, (blk_cell (AtB.on HA.out HD.out).k5 4).trans rfl⟩ (fun hHeld => ?_)
     clear hK K
     refine norm_ (a' := ?_) ?_ ?_
     rotate_left
     ·show Act.put _ (some 30) _ = _
      simp only [Act.put, List.setIfInBounds_toArray, List.set_cons_zero, List.set_cons_succ, i64_w, i32_w]
      rfl
     refine one_ (i := 6) (N := some 33) #[true, true, true, true, true, true, true, false, false] rfl rfl (one_of HT_.out (by kernel_rfl)) (by decide) (fun K hK => ?_)
     have hap := AtB.old HA.out.x4 HD.out HO.out
     refine Kd.N_append_rows_step k96 (w0 := wd) wd.heap.size (by rfl) (.tmp 30) (.tmp 32) 33 96 (.agg #[(.int .i64 0), (.slice none 0 0), (.int .i64 0), (.slice none 0 0), (.int .i64 0)]) 72 rfl Tryd.underlying33 info96 rfl (by decide) (by omega) v22 ([] ++ p.f4) x.f4 _ _ _ (fun b => ((P0 b ∧ b < N0) ∨ w.heap.size ≤ b) ∧ b ≠ g4 ∧ b ≠ g5 ∧ b ≠ g6) _ rfl rfl HO.out hap.1 hap.2 ?aF HD.out (below_size HD.out) ?aL ?_
     (case aF => exact fun b hk => HA.out.ok b (Nat.le_trans (below_size HD.out) hk))
     (case aL => have := HL.out; simp only [List.nil_append, List.length_nil]; omega)
     intro v25 w25 ho hb hg_ hn_
     clear hg_ hn_ hap HO HD
     have HO := Aside0.mk ho
     have HD := Aside0.mk hb
     clear ho hb
     rw [List.nil_append] at HO
     obtain ⟨B4, b4, e⟩ := Kd.N_slice HO.out
     subst e
     refine hK.out _ _ ⟨(blk_cell (AtB.on HA.out HD.out).k6 4).trans rfl, (blk_cell (AtB.on HA.out HD.out).k5 4).trans rfl⟩ (fun hHeld => ?_)
     clear hK K
     refine norm_ (a' := ?_) ?_ ?_
     rotate_left
     ·show Act.put _ (some 33) _ = _
      simp only [Act.put, List.setIfInBounds_toArray, List.set_cons_zero, List.set_cons_succ, i64_w, i32_w]
      rfl
     refine pure_ (i := 7) (N := some 34) (v := ?_) (a' := ?_) #[true, true, true, true, true, true, true, true, false] rfl rfl (any_of HT_.out (by kernel_rfl)) (fun _ _ _ h => h) (Or.inl ⟨by rfl, ?_⟩) ?_ ?_
     rotate_left
     ·intro w'
      go_simp
      with_reducible rfl
     rotate_left
     ·simp only [Act.put, List.setIfInBounds_toArray, List.set_cons_zero, List.set_cons_succ, i64_w, i32_w]
      rfl
     refine last_ (i := 8) (N := none) #[true, true, true, true, true, true, true, true, true] rfl rfl (one_of HT_.out (by kernel_rfl)) (by decide) (fun K hK => ?_)
     have HA3 := Aside0.mk (AtB.put4 (n := p.f4.length + x.f4.length) (AtB.on HA.out HD.out) List.length_append.symm (Kd.N_reads' HO.out).2.1 (Kd.N_F HO.out))
     have hs9 : w25.cell? ⟨g5, 4, none⟩ = some (.slice A4 x.f4.length c4) := (blk_cell (AtB.on HA.out HD.out).k5 4).trans rfl
     have hf9 := blk_frozen (AtB.on HA.out HD.out).k5 4
     refine skip_ (w1 := ?_) (by rfl) rfl ?_ ?_
     rotate_left
     ·go_simp
      rfl
     refine hK.out _ _ ?_
     refine done_ (done_of HT_.out (by kernel_rfl)) ?_
     clear hK K hs9 hf9 HO HD HA hHeld HT_ HW_
     have HA := HA3
     clear HA3
     go_wp2
     have HA2 := Aside0.mk (AtB.on HA.out (below_drew1 (Below.refl _ _)))
     refine start_ (n := 9) (S := fun w' => w'.cell? ⟨g6, 5, none⟩ = some (.slice P5 p.f5.length d5) ∧ w'.cell? ⟨g5, 5, none⟩ = some (.slice A5 x.f5.length c5)) (ds := [8]) #[false, false, false, false, false, false, false, false, false] (by kernel_rfl) rfl rfl ⟨(blk_cell HA2.out.k6 5).trans rfl, (blk_cell HA2.out.k5 5).trans rfl⟩ (fun hHeld => ?_)
     refine with_tabW at_tab5 at_bits5 (fun HT_ HW_ => ?_)
     clear HA
     have HA := HA2
     clear HA2
     generalize World.drew _ = wd at HA hHeld ⊢
     refine pure_ (i := 1) (N := some 36) (v := ?_) (a' := ?_) #[false, true, false, false, false, false, false, false, false] rfl rfl (any_of HT_.out (by kernel_rfl)) (fun _ _ _ h => h) (Or.inl ⟨by rfl, ?_⟩) ?_ ?_
     rotate_left
     ·intro w'
      go_simp
      with_reducible rfl
     rotate_left
     ·simp only [Act.put, List.setIfInBounds_toArray, List.set_cons_zero, List.set_cons_succ, i64_w, i32_w]
      rfl
     refine pure_ (i := 4) (N := some 39) (v := ?_) (a' := ?_) #[false, true, false, false, true, false, false, false, false] rfl rfl (any_of HT_.out (by kernel_rfl)) (fun _ _ _ h => h) (Or.inl ⟨by rfl, ?_⟩) ?_ ?_
     rotate_left
     ·intro w'
      go_simp
      with_reducible rfl
     rotate_left
     ·simp only [Act.put, List.setIfInBounds_toArray, List.set_cons_zero, List.set_cons_succ, i64_w, i32_w]
      rfl
     refine take_ (i := 2) (N := some 37) (v := ?_) (a' := ?_) #[false, true, true, false, true, false, false, false, false] rfl rfl (take_ofW HT_.out HW_.out (by kernel_rfl)) (fun _ _ _ h => h) (Or.inl ⟨by rfl, ?_⟩) hHeld ?_ ?_
     rotate_left
     ·rintro w' ⟨s0, s1⟩
      go_simp
      with_reducible rfl
     rotate_left
     ·simp only [Act.put, List.setIfInBounds_toArray, List.set_cons_zero, List.set_cons_succ, i64_w, i32_w]
      rfl
     refine take_ (i := 5) (N := some 40) (v := ?_) (a' := ?_) #[false, true, true, false, true, true, false, false, false] rfl rfl (take_ofW HT_.out HW_.out (by kernel_rfl)) (fun _ _ _ h => h) (Or.inl ⟨by rfl, ?_⟩) hHeld ?_ ?_
     rotate_left
     ·rintro w' ⟨s0, s1⟩
      go_simp
      with_reducible rfl
     rotate_left
     ·simp only [Act.put, List.setIfInBounds_toArray, List.set_cons_zero, List.set_cons_succ, i64_w, i32_w]
      rfl
     refine one_ (i := 0) (N := some 35) #[true, true, true, false, true, true, false, false, false] rfl rfl (one_of HT_.out (by kernel_rfl)) (by decide) (fun K hK => ?_)
     refine Kd.R_lit_step k31 wd.heap.size 31 ?hg (N := 35) ?hd (xs := ([] : List S31)) (inner := []) (ok := fun b => wd.heap.size ≤ b) (okp := fun b => wd.heap.size ≤ b) ?hr ?hp (fun _ hk => hk) (Nat.le_refl _) (Below.refl _ _) (Nat.le_refl _) (by simp) ?_; (case hd => rfl); (case hg => rfl); (case hr => first | (go_simp; done) | (go_simp; rfl)); (case hp => exact (Reps.none _ _))
     intro v19 w19 ho hb hg_ hn_
     clear hg_ hn_
     have HO := Aside0.mk (Kd.N_mono (Kd.R_N ho) HA.out.ok)
     have HD := Aside0.mk hb
     clear ho hb
     refine hK.out _ _ ⟨(blk_cell (AtB.on HA.out HD.out).k6 5).trans rfl, (blk_cell (AtB.on HA.out HD.out).k5 5).trans rfl⟩ (fun hHeld => ?_)
     clear hK K
     refine norm_ (a' := ?_) ?_ ?_
     rotate_left
     ·show Act.put _ (some 35) _ = _
      simp only [Act.put, List.setIfInBounds_toArray, List.set_cons_zero, List.set_cons_succ, i64_w, i32_w]
      rfl
     refine one_ (i := 3) (N := some 38) #[true, true, true, true, true, true, false, false, false] rfl rfl (one_of HT_.out (by kernel_rfl)) (by decide) (fun K hK => ?_)
     have hap := AtB.old HA.out.p5 HD.out HO.out
     refine Kd.N_append_rows_step k31 (w0 := wd) wd.heap.size (by rfl) (.tmp 35) (.tmp 37) 32 31 (.agg #[(.int .i64 0), (.slice none 0 0)]) 32 rfl Tryd.underlying32 info31 rfl (by decide) (by omega) v19 [] p.f5 _ _ _ (fun b => ((P0 b ∧ b < N0) ∨ w.heap.size ≤ b) ∧ b ≠ g4 ∧ b ≠ g5 ∧ b ≠ g6) _ rfl rfl HO.out hap.1 hap.2 ?aF HD.out (below_size HD.out) ?aL ?_
     (case aF => exact fun b hk => HA.out.ok b (Nat.le_trans (below_size HD.out) hk))
     (case aL => have := HL.out; simp only [List.nil_append, List.length_nil]; omega)
     intro v22 w22 ho hb hg_ hn_
     clear hg_ hn_ hap HO HD
     have HO := Aside0.mk ho
     have HD := Aside0.mk hb
     clear ho hb
     refine hK.out _ _ ⟨(blk_cell (AtB.on HA.out HD.out).k6 5).trans rfl, (blk_cell (AtB.on HA.out HD.out).k5 5).trans rfl⟩ (fun hHeld => ?_)
     clear hK K
     refine norm_ (a' := ?_) ?_ ?_
     rotate_left
     ·show Act.put _ (some 38) _ = _
      simp only [Act.put, List.setIfInBounds_toArray, List.set_cons_zero, List.set_cons_succ, i64_w, i32_w]
      rfl
     refine one_ (i := 6) (N := some 41) #[true, true, true, true, true, true, true, false, false] rfl rfl (one_of HT_.out (by kernel_rfl)) (by decide) (fun K hK => ?_)
     have hap := AtB.old HA.out.x5 HD.out HO.out
     refine Kd.N_append_rows_step k31 (w0 := wd) wd.heap.size (by rfl) (.tmp 38) (.tmp 40) 32 31 (.agg #[(.int .i64 0), (.slice none 0 0)]) 32 rfl Tryd.underlying32 info31 rfl (by decide) (by omega) v22 ([] ++ p.f5) x.f5 _ _ _ (fun b => ((P0 b ∧ b < N0) ∨ w.heap.size ≤ b) ∧ b ≠ g4 ∧ b ≠ g5 ∧ b ≠ g6) _ rfl rfl HO.out hap.1 hap.2 ?aF HD.out (below_size HD.out) ?aL ?_
     (case aF => exact fun b hk => HA.out.ok b (Nat.le_trans (below_size HD.out) hk))
     (case aL => have := HL.out; simp only [List.nil_append, List.length_nil]; omega)
     intro v25 w25 ho hb hg_ hn_
     clear hg_ hn_ hap HO HD
     have HO := Aside0.mk ho
     have HD := Aside0.mk hb
     clear ho hb
     rw [List.nil_append] at HO
     obtain ⟨B5, b5, e⟩ := Kd.N_slice HO.out
     subst e
     refine hK.out _ _ ⟨(blk_cell (AtB.on HA.out HD.out).k6 5).trans rfl, (blk_cell (AtB.on HA.out HD.out).k5 5).trans rfl⟩ (fun hHeld => ?_)
     clear hK K
     refine norm_ (a' := ?_) ?_ ?_
     rotate_left
     ·show Act.put _ (some 41) _ = _
      simp only [Act.put, List.setIfInBounds_toArray, List.set_cons_zero, List.set_cons_succ, i64_w, i32_w]
      rfl
     refine pure_ (i := 7) (N := some 42) (v := ?_) (a' := ?_) #[true, true, true, true, true, true, true, true, false] rfl rfl (any_of HT_.out (by kernel_rfl)) (fun _ _ _ h => h) (Or.inl ⟨by rfl, ?_⟩) ?_ ?_
     rotate_left
     ·intro w'
      go_simp
      with_reducible rfl
     rotate_left
     ·simp only [Act.put, List.setIfInBounds_toArray, List.set_cons_zero, List.set_cons_succ, i64_w, i32_w]
      rfl
     refine last_ (i := 8) (N := none) #[true, true, true, true, true, true, true, true, true] rfl rfl (one_of HT_.out (by kernel_rfl)) (by decide) (fun K hK => ?_)
     have HA3 := Aside0.mk (AtB.put5 (n := p.f5.length + x.f5.length) (AtB.on HA.out HD.out) List.length_append.symm (Kd.N_reads' HO.out).2.1 (Kd.N_F HO.out))
     have hs9 : w25.cell? ⟨g5, 5, none⟩ = some (.slice A5 x.f5.length c5) := (blk_cell (AtB.on HA.out HD.out).k5 5).trans rfl
     have hf9 := blk_frozen (AtB.on HA.out HD.out).k5 5
     refine skip_ (w1 := ?_) (by rfl) rfl ?_ ?_
     rotate_left
     ·go_simp
      rfl
     refine hK.out _ _ ?_
     refine done_ (done_of HT_.out (by kernel_rfl)) ?_
     clear hK K hs9 hf9 HO HD HA hHeld HT_ HW_
     have HA := HA3
     clear HA3
     generalize hW : World.setCell _ _ _ = W at HA ⊢
     clear hW
     have qz0 : World.cell? _ ⟨g4, 0, none⟩ = some (.string (⟨#[]⟩ : ByteArray)) := (blk_cell HA.out.k4 0).trans rfl
     have qf0 := blk_frozen HA.out.k4 0
     have pz0 : World.cell? _ ⟨g5, 0, none⟩ = some (.string x.f0) := (blk_cell HA.out.k5 0).trans rfl
     have qz1 : World.cell? _ ⟨g4, 1, none⟩ = some (.int .i64 0) := (blk_cell HA.out.k4 1).trans rfl
     have qf1 := blk_frozen HA.out.k4 1
     have pz1 : World.cell? _ ⟨g5, 1, none⟩ = some (.int .i64 x.f1) := (blk_cell HA.out.k5 1).trans rfl
     have qz2 : World.cell? _ ⟨g4, 2, none⟩ = some (.int .i64 0) := (blk_cell HA.out.k4 2).trans rfl
     have qf2 := blk_frozen HA.out.k4 2
     have pz2 : World.cell? _ ⟨g5, 2, none⟩ = some (.int .i64 x.f2) := (blk_cell HA.out.k5 2).trans rfl
     have qz3 : World.cell? _ ⟨g4, 3, none⟩ = some (.slice none 0 0) := (blk_cell HA.out.k4 3).trans rfl
     have qf3 := blk_frozen HA.out.k4 3
     have pz3 : World.cell? _ ⟨g5, 3, none⟩ = some (.slice B3 (p.f3 ++ x.f3).length b3) := (blk_cell HA.out.k5 3).trans rfl
     have qz4 : World.cell? _ ⟨g4, 4, none⟩ = some (.slice none 0 0) := (blk_cell HA.out.k4 4).trans rfl
     have qf4 := blk_frozen HA.out.k4 4
     have pz4 : World.cell? _ ⟨g5, 4, none⟩ = some (.slice B4 (p.f4 ++ x.f4).length b4) := (blk_cell HA.out.k5 4).trans rfl
     have qz5 : World.cell? _ ⟨g4, 5, none⟩ = some (.slice none 0 0) := (blk_cell HA.out.k4 5).trans rfl
     have qf5 := blk_frozen HA.out.k4 5
     have pz5 : World.cell? _ ⟨g5, 5, none⟩ = some (.slice B5 (p.f5 ++ x.f5).length b5) := (blk_cell HA.out.k5 5).trans rfl
     have hn54 := HA.out.e54
     have hn45 := Ne.symm hn54
     go_wp2
     rw [show p.f3.length + x.f3.length = (p.f3 ++ x.f3).length from List.length_append.symm, show p.f4.length + x.f4.length = (p.f4 ++ x.f4).length from List.length_append.symm, show p.f5.length + x.f5.length = (p.f5 ++ x.f5).length from List.length_append.symm]
     have hE := AtB.fin HA.out
     refine bodyPost_ret (results_cell_row rfl _ _ g4 35 #[.string x.f0, .int .i64 x.f1, .int .i64 x.f2, .slice B3 (p.f3 ++ x.f3).length b3, .slice B4 (p.f4 ++ x.f4).length b4, .slice B5 (p.f5 ++ x.f5).length b5] (0, 0) _ rfl hE.1 Tryd.underlying35 rfl (by kernel_rfl)) rfl ?_
     exact ⟨B3, b3, B4, b4, B5, b5, by first | rfl | simp, hE.2⟩
    ·rw [if_neg hl] at H'
     cases H'
  ·rw [if_neg hi] at h
   cases h
end Go.Proofs.YtjijikgandkphaaDoor.G
