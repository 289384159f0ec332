import Derived.Test.YtjijikgandkphaaDoorGx0
import Derived.Test.YtjijikgandkphaaDoorGx12
namespace Go.Proofs.YtjijikgandkphaaDoor.G
open Go.RowKit Go.Proofs.YtjijikgandkphaaDoorW.PrintWords Go.Proofs.YtjijikgandkphaaDoorW.PrintLast Go.Proofs.YtjijikgandkphaaDoorW.PrintMore Go.Proofs.YtjijikgandkphaaDoorW.VWords Go.Proofs.YtjijikgandkphaaDoorW.Tab
attribute [local go_sem] max2_int min2_int max_two min_two max_three min_three max_four min_four
set_option linter.unusedVariables false
set_option linter.unusedSimpArgs false
theorem unit_event {P : Program} {ops : Array Oper} {Q : Exit → Act → World → Prop} {rest : List Oper} {o : Oper} {a : Act} {W : World} (hgd : o.guard = none) {N : Tmp} (_hd : o.dst = some N) {cs : Array Value} {t m : Nat}
  (hrun : (execOp a.eval o).run P W = .ok (.value (.slice (some ⟨W.heap.size, 0, none⟩) m m)) (W.alloc (.cells cs t)))
  (h : ∀ g, g = W.heap.size → ∀ w1, w1.heap[g]? = some (.cells cs t (0, 0)) → Below W.heap.size W w1 → wpList P ops Q rest (a.put o.dst (.slice (some ⟨g, 0, none⟩) m m)) w1) : wpList P ops Q (o :: rest) a W :=
 Kd.event_run hgd hrun (h _ rfl _ (blk_new W _) (below_alloc (Below.refl _ _) _))
def unitsL : List S96 → List (List Int) → Option (List (List Int))
 | [], M => some M
 | x :: xs, M => if x.f1.length = 1 ∧ 0 ≤ rd x.f1 0 then (if 0 ≤ x.f0 ∧ x.f0 < 20 ∧ (M.getD x.f0.toNat []).length < 1000000 then unitsL xs (M.set x.f0.toNat (putF (M.getD x.f0.toNat []) (rd x.f1 0))) else none) else unitsL xs M
structure UnB (w W : World) (g : Nat) (M : List (List Int)) (cs : List Value) : Prop where
 hb : Below w.heap.size w W
 ng : w.heap.size ≤ g
 hl : M.length = 20
 hc : cs.length = 20
 blk : W.heap[g]? = some (.cells cs.toArray 36 (0, 0))
 row : ∀ j, j < 20 → ∃ A c, cs[j]? = some (.slice A (M.getD j []).length c) ∧ (M.getD j []).length ≤ c ∧ Kd.F (Kd.int .i64) W (fun b => w.heap.size ≤ b ∧ b ≠ g) A (M.getD j []).length (M.getD j [])
theorem UnB.on {w W W1 : World} {g : Nat} {M : List (List Int)} {cs : List Value} (h : UnB w W g M cs) (hb : Below W.heap.size W W1) : UnB w W1 g M cs :=
 ⟨below_step h.hb hb, h.ng, h.hl, h.hc, blk_below h.blk hb, fun j hj => by
  obtain ⟨A, c, e, hl, hf⟩ := h.row j hj
  exact ⟨A, c, e, hl, Kd.F_below hf hb⟩⟩
theorem UnB.cell {w W : World} {g : Nat} {M : List (List Int)} {cs : List Value} (h : UnB w W g M cs) (j : Nat) (hj : j < 20) : ∃ A c, W.cell? ⟨g, j, none⟩ = some (.slice A (M.getD j []).length c) ∧ (M.getD j []).length ≤ c ∧ Kd.F (Kd.int .i64) W (fun b => w.heap.size ≤ b ∧ b ≠ g) A (M.getD j []).length (M.getD j []) := by
 obtain ⟨A, c, e, hl, hf⟩ := h.row j hj
 exact ⟨A, c, by rw [blk_cell h.blk]; simpa using e, hl, hf⟩
theorem UnB.put {w W : World} {g : Nat} {M : List (List Int)} {cs : List Value} (h : UnB w W g M cs) (j : Nat) (hj : j < 20) {A : Option Addr} {c n : Nat} {xs : List Int} (hn : n = xs.length) (hc : xs.length ≤ c) (hf : Kd.F (Kd.int .i64) W (fun b => w.heap.size ≤ b ∧ b ≠ g) A xs.length xs) : UnB w (W.setCell ⟨g, j, none⟩ (.slice A n c)) g (M.set j xs) (cs.set j (.slice A n c)) := by
 subst hn
 have hfar : ∀ {A' : Option Addr} {n' : Nat} {ys : List Int}, Kd.F (Kd.int .i64) W (fun b => w.heap.size ≤ b ∧ b ≠ g) A' n' ys → Kd.F (Kd.int .i64) (W.setCell ⟨g, j, none⟩ (.slice A xs.length c)) (fun b => w.heap.size ≤ b ∧ b ≠ g) A' n' ys := fun f => Kd.F_far (p := ⟨g, j, none⟩) f (fun b hb => hb.2) _
 refine ⟨below_set h.hb h.ng, h.ng, by rw [List.length_set]; exact h.hl, by rw [List.length_set]; exact h.hc, blk_put h.blk j _ (by simp), fun i hi => ?_⟩
 by_cases e : i = j
 ·subst e
  have hM := h.hl
  have hC := h.hc
  refine ⟨A, c, ?_, ?_, ?_⟩
  ·rw [List.getElem?_set_self (by omega), List.getD_eq_getElem?_getD, List.getElem?_set_self (by omega)]
   rfl
  ·rw [List.getD_eq_getElem?_getD, List.getElem?_set_self (by omega)]
   exact hc
  ·rw [List.getD_eq_getElem?_getD, List.getElem?_set_self (by omega)]
   exact hfar hf
 ·obtain ⟨A', c', e', hl', hf'⟩ := h.row i hi
  have eM : (M.set j xs).getD i [] = M.getD i [] := by rw [List.getD_eq_getElem?_getD, List.getElem?_set_ne (Ne.symm e), List.getD_eq_getElem?_getD]
  rw [eM]
  exact ⟨A', c', by rw [List.getElem?_set_ne (Ne.symm e)]; exact e', hl', hfar hf'⟩
theorem UnB.C {w W : World} {g : Nat} {M : List (List Int)} {cs : List Value} (h : UnB w W g M cs) : (Kd.slice 3 (Kd.int .i64)).C W (some ⟨g, 0, none⟩) M.length M := by
 refine ⟨rfl, by rw [h.hl]; decide, fun _ => ⟨_, rfl, fun j p hj => ?_⟩⟩
 obtain ⟨hjl, hp⟩ := List.getElem?_eq_some_iff.1 hj
 obtain ⟨A, c, e, hl, hf⟩ := h.cell j (by have := h.hl; omega)
 have ep : M.getD j [] = p := by rw [List.getD_eq_getElem?_getD, hj]; rfl
 rw [ep] at e hl hf
 refine ⟨[.slice A p.length c], rfl, ⟨A, c, rfl, hl, Kd.F_now hf⟩, fun i u hu => ?_⟩
 cases i with
 | zero =>
  cases hu
  have e1 : (Addr.mk g 0 none).add (j * 1 + 0) = ⟨g, j, none⟩ := by
   simp [Addr.add]
   intro h
   omega
  show W.cell? ((Addr.mk g 0 none).add (j * 1 + 0)) = _
  rw [e1]
  exact e
 | succ i => simp at hu
abbrev set5 (w : World) (g : Nat) (v0 v1 v2 v3 v4 : Value) : World := ((((w.setCell ⟨g, 0, none⟩ v0).setCell ⟨g, 1, none⟩ v1).setCell ⟨g, 2, none⟩ v2).setCell ⟨g, 3, none⟩ v3).setCell ⟨g, 4, none⟩ v4
theorem set5_far (w : World) (g k : Nat) (v0 v1 v2 v3 v4 : Value) (h : k ≠ g) : (set5 w g v0 v1 v2 v3 v4).heap[k]? = w.heap[k]? :=
 have s : ∀ (W : World) j v, (W.setCell ⟨g, j, none⟩ v).heap[k]? = W.heap[k]? := fun W j v => Below.heap_setCell W ⟨g, j, none⟩ v k h
 (s _ 4 v4).trans ((s _ 3 v3).trans ((s _ 2 v2).trans ((s _ 1 v1).trans (s _ 0 v0))))
theorem set5_blk {w : World} {g t : Nat} {u0 u1 u2 u3 u4 : Value} (h : w.heap[g]? = some (.cells #[u0, u1, u2, u3, u4] t (0, 0))) (v0 v1 v2 v3 v4 : Value) : (set5 w g v0 v1 v2 v3 v4).heap[g]? = some (.cells #[v0, v1, v2, v3, v4] t (0, 0)) :=
 blk_put (blk_put (blk_put (blk_put (blk_put h 0 v0 rfl) 1 v1 rfl) 2 v2 rfl) 3 v3 rfl) 4 v4 rfl
theorem UnB.box {w W W5 : World} {g b : Nat} {M : List (List Int)} {cs : List Value} (h : UnB w W g M cs) (hb : Below W.heap.size W W5) (e : b = W.heap.size) (v0 v1 v2 v3 v4 : Value) : UnB w (set5 W5 b v0 v1 v2 v3 v4) g M cs := by
 have s : ∀ k, k < W.heap.size → (set5 W5 b v0 v1 v2 v3 v4).heap[k]? = W.heap[k]? := fun k hk => (set5_far W5 b k v0 v1 v2 v3 v4 (by omega)).trans (hb.block k hk)
 have n := below_size h.hb
 refine ⟨below_set (below_set (below_set (below_set (below_set (below_step h.hb hb) (by omega)) (by omega)) (by omega)) (by omega)) (by omega), h.ng, h.hl, h.hc, (s g (blk_lt h.blk)).trans h.blk, fun j hj => ?_⟩
 obtain ⟨A, c, e', hl, hf⟩ := h.row j hj
 exact ⟨A, c, e', hl, Kd.F_mono (Kd.F_step (Foot.bound hf) (fun k _ hk => s k hk)) (fun k hk => hk.1)⟩
theorem un_start {w w6 : World} {g : Nat} (hg : w.heap.size ≤ g) (hbox : w6.heap[g]? = some (.cells (List.replicate 20 (Value.slice none 0 0)).toArray 36 (0, 0))) (hb : Below w.heap.size w w6) : UnB w w6 g (List.replicate 20 []) (List.replicate 20 (.slice none 0 0)) := by
 refine ⟨hb, hg, List.length_replicate, List.length_replicate, hbox, fun j hj => ?_⟩
 have e : (List.replicate 20 ([] : List Int)).getD j [] = [] := by
  rw [List.getD_eq_getElem?_getD, List.getElem?_replicate]
  split <;> rfl
 rw [e]
 exact ⟨none, 0, by rw [List.getElem?_replicate, if_pos hj]; rfl, Nat.le_refl _, fun W' _ => ⟨rfl, by decide, fun h => absurd h (by decide)⟩⟩
theorem units_tab : rtab .any (opsOf Tryd.f69 7) = (true, [(([] : List Nat), ([] : List Nat)), ([], []), ([1], [1]), ([], []), ([], []), ([4], [4]), ([3, 5], [3, 5]), ([6], [6]), ([], []), ([8], [8]), ([9], [9]), ([10], [10]), ([7, 11], [7, 11]), ([0, 2, 0, 1, 2, 3, 4, 5, 6, 7, 8, 9, 10, 11, 12], [0, 2]), ([13, 12, 12, 0, 1, 2, 3, 4, 5, 6, 7, 8, 9, 10, 11, 12], [12, 13])]) := by kernel_rfl
theorem units_bits : waitsOk [(([] : List Nat), ([] : List Nat)), ([], []), ([1], [1]), ([], []), ([], []), ([4], [4]), ([3, 5], [3, 5]), ([6], [6]), ([], []), ([8], [8]), ([9], [9]), ([10], [10]), ([7, 11], [7, 11]), ([0, 2, 0, 1, 2, 3, 4, 5, 6, 7, 8, 9, 10, 11, 12], [0, 2]), ([13, 12, 12, 0, 1, 2, 3, 4, 5, 6, 7, 8, 9, 10, 11, 12], [12, 13])] [0, 0, 2, 0, 0, 16, 56, 120, 0, 256, 768, 1792, 4088, 8191, 16383] = true := by kernel_rfl
set_option maxHeartbeats 8000000 in
set_option maxRecDepth 100000 in
theorem units_walk (l : List S96) (r : List (List Int)) (A0 : Option Addr) (c0 : Nat) (w : World) (hC : Kd.C k96 w A0 l.length l) (h : unitsL l (List.replicate 20 []) = some r) :
  Calls Tryd.prog 69 #[.slice A0 l.length c0] w fun e w' => ∃ A c, e = .returned (.slice A r.length c) ∧ (Kd.slice 3 (Kd.int .i64)).C w' A r.length r ∧ Below w.heap.size w w' := by
 have hu108 := Tryd.underlying96
 have hu29 := Tryd.underlying33
 have hu81 := Tryd.underlying123
 have hu25 := Tryd.underlying36
 have HC := Aside0.mk hC
 have H := Aside0.mk h
 have HL := Aside0.mk hC.2.1
 clear hC h
 obtain ⟨i0, hi0, hz0, hsz, hby⟩ := info_parts info36
 have hmk : ∀ W : World, (Instr.makeSlice 123 (.int .i64 20) (.int .i64 20)).run Tryd.prog W = .ok (.slice (some ⟨W.heap.size, 0, none⟩) 20 20) (W.alloc (.cells (List.replicate 20 (Value.slice none 0 0)).toArray 36)) := fun W => by
  have h := run_make (P := Tryd.prog) W 123 36 i0 (.slice none 0 0) hu81 hi0 hz0 .i64 .i64 20 20 (by omega) (by omega) (by rw [hby]; omega) (by omega)
  rw [hsz] at h
  exact h.trans (by kernel_rfl)
 clear hi0 hz0 hsz hby
 go_enter Tryd.func69, Tryd.ntmps69
 go_wp2_with (first
  | ((with_reducible refine gate_dst (N := 6) rfl ?_); refine unit_event ?hg (N := 6) ?hd (cs := (List.replicate 20 (Value.slice none 0 0)).toArray) (t := 36) (m := 20) ?hr ?_; (case hd => rfl); (case hg => rfl); (case hr => first | (go_simp; done) | (go_simp; rfl)); intro g hg w6 hbox hb; have HU := Aside0.mk (un_start (Nat.le_of_eq hg.symm) hbox hb); clear hbox hb hg))
 go_loopg [4] (l.length + 1) (fun kq v4 w' => ∃ (m : Nat) (i : Int) (M : List (List Int)) (cs : List Value), v4 = .int .i64 i ∧ Aside0 (i = (m : Int)) ∧ Aside0 (m ≤ l.length ∧ kq + m = l.length + 1) ∧ Aside0 (unitsL (l.drop m) M = some r) ∧ Aside0 (UnB w w' g M cs))
 case atStart => exact ⟨0, 0, _, _, rfl, ⟨rfl⟩, ⟨by omega, rfl⟩, H, HU⟩
 case round =>
  clear HU H
  obtain ⟨m, i, M, cs, rfl, HI, HJ, H, HU⟩ := hrel
  cases gk with
  | zero => exact absurd HJ.out (by omega)
  | succ k1 =>
   by_cases hm : m < l.length
   ·have cb : decide (i < (l.length : Int)) = true := decide_eq_true (by have := HI.out; omega)
    have p0 : 0 ≤ i := by have := HI.out; omega
    have q0 : i < (l.length : Int) := by have := HI.out; omega
    obtain ⟨ad, A1, c1, A3, c3, e, hx0, hx1, hx2, hx3, hx4, hl1, hC1, hl3, hC3⟩ := at_T96 (Kd.C_below HC.out HU.out.hb) i p0 q0
    subst e
    have H' := H.out
    rw [show l.drop m = rd_T96 l i :: l.drop (m + 1) by rw [rd_T96, List.getD_eq_getElem?_getD, show i.toNat = m by have := HI.out; omega, List.getElem?_eq_getElem hm]; exact List.drop_eq_getElem_cons hm, unitsL] at H'
    clear H
    generalize rd_T96 l i = x at hx0 hx1 hx2 hx3 hx4 hl1 hC1 hl3 hC3 H'
    have HC1 := Aside0.mk hC1
    clear hl1 hl3 hC3 hC1
    by_cases h1 : x.f1.length = 1
    ·have c1b : ((x.f1.length : Int) == 1) = true := by simp [h1]
     by_cases h2 : 0 ≤ rd x.f1 0
     ·have c2b : decide (0 ≤ rd x.f1 0) = true := decide_eq_true h2
      rw [if_pos ⟨h1, h2⟩] at H'
      by_cases h3 : 0 ≤ x.f0 ∧ x.f0 < 20 ∧ (M.getD x.f0.toNat []).length < 1000000
      ·rw [if_pos h3] at H'
       have H := Aside0.mk H'
       clear H'
       obtain ⟨ax, ex, hrx⟩ := Kd.at_int HC1.out 0 (by omega) (by omega)
       have pz : (0 : Int) < (x.f1.length : Int) := by omega
       have qz : (0 < x.f1.length) = True := eq_true (by omega)
       replace h1 := Aside0.mk h1
       clear hrx
       subst ex
       go_wp2_with (first | ((with_reducible refine gate_dst (N := 5) rfl ?_); refine box_event ?hg (N := 5) ?hd (cs := #[.int .i64 0, .slice none 0 0, .int .i64 0, .slice none 0 0, .int .i64 0]) (t := 96) ?hr ?_; (case hd => rfl); (case hg => rfl); (case hr => first | (go_simp; done) | (go_simp; rfl)); intro b hb5 w5 hbox hb; have BE := Aside0.mk hb5; have BK := Aside0.mk hbox; have HV := Aside0.mk (UnB.box HU.out hb hb5 (.int .i64 x.f0) (.slice (some ax) x.f1.length c1) (.int .i64 x.f2.f0) (.slice A3 x.f2.f1.length c3) (.int .i64 x.f3)); have hnx : ax.block ≠ b := (by have := Kd.C_lt HC1.out (by omega) (by decide); omega); have hrx5 : w5.cell? ax = some (.int .i64 (rd x.f1 0)) := (by obtain ⟨_, e_, h_⟩ := Kd.at_int (Kd.C_below HC1.out hb) 0 (by omega) (by omega); cases e_; rw [show (0 : Int).toNat = 0 from rfl, Addr.add_zero'] at h_; exact h_); replace hrx5 := (cell_far (p := ⟨b, 0, none⟩) hnx (.int .i64 x.f0)).trans hrx5; replace hrx5 := (cell_far (p := ⟨b, 1, none⟩) hnx (.slice (some ax) x.f1.length c1)).trans hrx5; replace hrx5 := (cell_far (p := ⟨b, 2, none⟩) hnx (.int .i64 x.f2.f0)).trans hrx5; replace hrx5 := (cell_far (p := ⟨b, 3, none⟩) hnx (.slice A3 x.f2.f1.length c3)).trans hrx5; replace hrx5 := (cell_far (p := ⟨b, 4, none⟩) hnx (.int .i64 x.f3)).trans hrx5; clear hbox hb hb5 hx0 hx1 hx2 hx3 hx4; have bz0 : w5.cell? ⟨b, 0, none⟩ = some (.int .i64 0) := (blk_cell BK.out 0).trans rfl; have bf0 := blk_frozen BK.out 0; have bz1 : w5.cell? ⟨b, 1, none⟩ = some (.slice none 0 0) := (blk_cell BK.out 1).trans rfl; have bf1 := blk_frozen BK.out 1; have bz2 : w5.cell? ⟨b, 2, none⟩ = some (.int .i64 0) := (blk_cell BK.out 2).trans rfl; have bf2 := blk_frozen BK.out 2; have bz3 : w5.cell? ⟨b, 3, none⟩ = some (.slice none 0 0) := (blk_cell BK.out 3).trans rfl; have bf3 := blk_frozen BK.out 3; have bz4 : w5.cell? ⟨b, 4, none⟩ = some (.int .i64 0) := (blk_cell BK.out 4).trans rfl; have bf4 := blk_frozen BK.out 4))
       have BV := Aside0.mk (set5_blk BK.out (.int .i64 x.f0) (.slice (some ax) x.f1.length c1) (.int .i64 x.f2.f0) (.slice A3 x.f2.f1.length c3) (.int .i64 x.f3))
       have HX := Aside0.mk h3
       clear BK bz0 bz1 bz2 bz3 bz4 bf0 bf1 bf2 bf3 bf4
       obtain ⟨W6, hW6⟩ : ∃ W6, W6 = set5 w5 b (.int .i64 x.f0) (.slice (some ax) x.f1.length c1) (.int .i64 x.f2.f0) (.slice A3 x.f2.f1.length c3) (.int .i64 x.f3) := ⟨_, rfl⟩
       change Code.wp _ _ _ _ (set5 w5 b (.int .i64 x.f0) (.slice (some ax) x.f1.length c1) (.int .i64 x.f2.f0) (.slice A3 x.f2.f1.length c3) (.int .i64 x.f3))
       rw [← hW6] at HV BV ⊢
       replace hrx5 : W6.cell? ax = some (.int .i64 (rd x.f1 0)) := by rw [hW6]; exact hrx5
       clear hW6
       have bz0 : W6.cell? ⟨b, 0, none⟩ = some (.int .i64 x.f0) := (blk_cell BV.out 0).trans rfl
       have bz1 : W6.cell? ⟨b, 1, none⟩ = some (.slice (some ax) x.f1.length c1) := (blk_cell BV.out 1).trans rfl
       obtain ⟨Ar, cr, hcell, hlr, hfr⟩ := HV.out.cell x.f0.toNat (by omega)
       have HFR := Aside0.mk (And.intro hlr hfr)
       clear hlr hfr
       obtain ⟨row, hrow⟩ : ∃ t, t = M.getD x.f0.toNat [] := ⟨_, rfl⟩
       rw [← hrow] at hcell HFR H HX
       have HROW := Aside0.mk hrow
       clear hrow
       have y0 := h3.1
       have y1 : x.f0 < 20 := h3.2.1
       have y2 : x.f0 < ((20 : Nat) : Int) := h3.2.1
       clear h3
       refine start_ (n := 15) (S := fun w' => w'.cell? ⟨b, 0, none⟩ = some (.int .i64 x.f0) ∧ w'.cell? ⟨b, 1, none⟩ = some (.slice (some ax) x.f1.length c1) ∧ w'.cell? ax = some (.int .i64 (rd x.f1 0)) ∧ w'.cell? ⟨g, x.f0.toNat, none⟩ = some (.slice Ar row.length cr)) (ds := [14]) #[false, false, false, false, false, false, false, false, false, false, false, false, false, false, false] (by kernel_rfl) rfl rfl ⟨bz0, bz1, hrx5, hcell⟩ (fun hHeld => ?_)
       refine with_tabW units_tab units_bits (fun HT_ HW_ => ?_)
       have HV2 := Aside0.mk (UnB.on HV.out (below_drew1 (Below.refl _ _)))
       have HFR2 := Aside0.mk (And.intro HFR.out.1 (Kd.F_below HFR.out.2 (below_drew1 (Below.refl _ _))))
       clear HV HFR BV hrx5 bz0 bz1 hcell
       generalize W6.drew = W7 at HV2 HFR2 hHeld ⊢
       refine pU HT_ 0 (some 28) (oB 15 1) ?_
       refine pU HT_ 1 (some 29) (oB 15 3) ?_
       refine pU HT_ 3 (some 31) (oB 15 11) ?_
       refine pU HT_ 4 (some 32) (oB 15 27) ?_
       refine pU HT_ 8 (some 36) (oB 15 283) ?_
       refine take_ (i := 2) (N := some 30) (v := ?_) (a' := ?_) (oB 15 287) rfl rfl (take_ofW HT_.out HW_.out (by kernel_rfl)) (fun _ _ _ h => h) (Or.inl ⟨by rfl, ?_⟩) hHeld ?_ ?_
       rotate_left
       ·rintro w' ⟨s0, s1, s2, s3⟩
        go_simp
        with_reducible rfl
       rotate_left
       ·simp only [Act.put, List.setIfInBounds_toArray, List.set_cons_zero, List.set_cons_succ, i64_w, i32_w]
        rfl
       refine take_ (i := 5) (N := some 33) (v := ?_) (a' := ?_) (oB 15 319) rfl rfl (take_ofW HT_.out HW_.out (by kernel_rfl)) (fun _ _ _ h => h) (Or.inl ⟨by rfl, ?_⟩) hHeld ?_ ?_
       rotate_left
       ·rintro w' ⟨s0, s1, s2, s3⟩
        go_simp
        with_reducible rfl
       rotate_left
       ·simp only [Act.put, List.setIfInBounds_toArray, List.set_cons_zero, List.set_cons_succ, i64_w, i32_w]
        rfl
       refine pU HT_ 6 (some 34) (oB 15 383) ?_
       refine take_ (i := 7) (N := some 35) (v := ?_) (a' := ?_) (oB 15 511) rfl rfl (take_ofW HT_.out HW_.out (by kernel_rfl)) (fun _ _ _ h => h) (Or.inl ⟨by rfl, ?_⟩) hHeld ?_ ?_
       rotate_left
       ·rintro w' ⟨s0, s1, s2, s3⟩
        go_simp
        with_reducible rfl
       rotate_left
       ·simp only [Act.put, List.setIfInBounds_toArray, List.set_cons_zero, List.set_cons_succ, i64_w, i32_w]
        rfl
       refine take_ (i := 9) (N := some 37) (v := ?_) (a' := ?_) (oB 15 1023) rfl rfl (take_ofW HT_.out HW_.out (by kernel_rfl)) (fun _ _ _ h => h) (Or.inl ⟨by rfl, ?_⟩) hHeld ?_ ?_
       rotate_left
       ·rintro w' ⟨s0, s1, s2, s3⟩
        go_simp
        with_reducible rfl
       rotate_left
       ·simp only [Act.put, List.setIfInBounds_toArray, List.set_cons_zero, List.set_cons_succ, i64_w, i32_w]
        rfl
       refine pU HT_ 10 (some 38) (oB 15 2047) ?_
       refine take_ (i := 11) (N := some 39) (v := ?_) (a' := ?_) (oB 15 4095) rfl rfl (take_ofW HT_.out HW_.out (by kernel_rfl)) (fun _ _ _ h => h) (Or.inl ⟨by rfl, ?_⟩) hHeld ?_ ?_
       rotate_left
       ·rintro w' ⟨s0, s1, s2, s3⟩
        go_simp
        with_reducible rfl
       rotate_left
       ·simp only [Act.put, List.setIfInBounds_toArray, List.set_cons_zero, List.set_cons_succ, i64_w, i32_w]
        rfl
       refine one_ (i := 12) (N := some 40) (oB 15 8191) rfl rfl (one_of HT_.out (by kernel_rfl)) (by decide) (fun K hK => ?_)
       refine goes_ Tryd.func81 (by kernel_rfl) rfl #[.slice Ar row.length cr, .int .i64 (rd x.f1 0)] (by rfl) rfl rfl (by (try simp only [List.map_toArray, List.map_cons, List.map_nil]); first | done | rfl) ?_
       refine (put4_walk row (rd x.f1 0) Ar cr W7 HX.out.2.2 HFR2.out.1 (Kd.F_now HFR2.out.2)).mono ?_
       rintro e wq ⟨v, rfl, hb, hv⟩
       have hres : ∃ A' c', v = .slice A' (putF row (rd x.f1 0)).length c' ∧ (putF row (rd x.f1 0)).length ≤ c' ∧ Kd.F (Kd.int .i64) wq (fun k => w.heap.size ≤ k ∧ k ≠ g) A' (putF row (rd x.f1 0)).length (putF row (rd x.f1 0)) := by
        rcases hv with ⟨rfl, e⟩ | hv
        ·rw [e]
         exact ⟨Ar, cr, rfl, HFR2.out.1, Kd.F_below HFR2.out.2 hb⟩
        ·obtain ⟨A', c', e⟩ := Kd.R_slice hv
         subst e
         have hg := blk_lt HV2.out.blk
         have hs := below_size HV2.out.hb
         exact ⟨A', c', rfl, (Kd.R_reads' hv).2.1, Kd.F_mono (Kd.R_F hv) (fun k hk => ⟨by omega, by omega⟩)⟩
       obtain ⟨A', c', rfl, hlp, hfp⟩ := hres
       refine ⟨_, rfl, ?_⟩
       have HS := Aside0.mk (show wq.cell? ⟨b, 0, none⟩ = some (.int .i64 x.f0) ∧ wq.cell? ⟨b, 1, none⟩ = some (.slice (some ax) x.f1.length c1) ∧ wq.cell? ax = some (.int .i64 (rd x.f1 0)) ∧ wq.cell? ⟨g, x.f0.toNat, none⟩ = some (.slice Ar row.length cr) from ⟨(hb.cell (World.block_lt_of_cell? _ _ hHeld.1)).trans hHeld.1, (hb.cell (World.block_lt_of_cell? _ _ hHeld.2.1)).trans hHeld.2.1, (hb.cell (World.block_lt_of_cell? _ _ hHeld.2.2.1)).trans hHeld.2.2.1, (hb.cell (World.block_lt_of_cell? _ _ hHeld.2.2.2)).trans hHeld.2.2.2⟩)
       have HVq := Aside0.mk (UnB.on HV2.out hb)
       have HPq := Aside0.mk (And.intro hlp hfp)
       clear hv hlp hfp HV2 HFR2 hb
       refine hK.out _ _ HS.out (fun hHeld => ?_)
       clear hK K
       refine nM ?_
       refine pU HT_ 13 (some 41) (oB 15 16383) ?_
       refine last_ (i := 14) (N := none) (oB 15 32767) rfl rfl (one_of HT_.out (by kernel_rfl)) (by decide) (fun K hK => ?_)
       have hs9 := HS.out.2.2.2
       have hf9 := blk_frozen HVq.out.blk x.f0.toNat
       refine skip_ (w1 := ?_) (by rfl) rfl ?_ ?_
       rotate_left
       ·go_simp
        rfl
       refine hK.out _ _ ?_
       refine done_ (done_of HT_.out (by kernel_rfl)) ?_
       have HVr := Aside0.mk (UnB.put HVq.out x.f0.toNat (by omega) (n := (putF row (rd x.f1 0)).length) rfl HPq.out.1 HPq.out.2)
       clear hK K hs9 hf9 hHeld HT_ HW_
       go_wp2
       go_roundg k1
       case measure => have := HJ.out; omega
       case rel => exact ⟨m + 1, _, _, _, rfl, ⟨by have := HI.out; have := HL.out; first | omega | (unfold wrap64; omega)⟩, ⟨by have := HJ.out; omega⟩, H, HVr⟩
      ·rw [if_neg h3] at H'
       cases H'
     ·have c2b : decide (0 ≤ rd x.f1 0) = false := decide_eq_false h2
      rw [if_neg (fun h => h2 h.2)] at H'
      have H := Aside0.mk H'
      clear H'
      obtain ⟨ax, ex, hrx⟩ := Kd.at_int HC1.out 0 (by omega) (by omega)
      have pz : (0 : Int) < (x.f1.length : Int) := by omega
      have qz : (0 < x.f1.length) = True := eq_true (by omega)
      replace h1 := Aside0.mk h1
      clear hrx
      subst ex
      go_wp2_with (first | ((with_reducible refine gate_dst (N := 5) rfl ?_); refine box_event ?hg (N := 5) ?hd (cs := #[.int .i64 0, .slice none 0 0, .int .i64 0, .slice none 0 0, .int .i64 0]) (t := 96) ?hr ?_; (case hd => rfl); (case hg => rfl); (case hr => first | (go_simp; done) | (go_simp; rfl)); intro b hb5 w5 hbox hb; have BE := Aside0.mk hb5; have BK := Aside0.mk hbox; have HV := Aside0.mk (UnB.box HU.out hb hb5 (.int .i64 x.f0) (.slice (some ax) x.f1.length c1) (.int .i64 x.f2.f0) (.slice A3 x.f2.f1.length c3) (.int .i64 x.f3)); have hnx : ax.block ≠ b := (by have := Kd.C_lt HC1.out (by omega) (by decide); omega); have hrx5 : w5.cell? ax = some (.int .i64 (rd x.f1 0)) := (by obtain ⟨_, e_, h_⟩ := Kd.at_int (Kd.C_below HC1.out hb) 0 (by omega) (by omega); cases e_; rw [show (0 : Int).toNat = 0 from rfl, Addr.add_zero'] at h_; exact h_); replace hrx5 := (cell_far (p := ⟨b, 0, none⟩) hnx (.int .i64 x.f0)).trans hrx5; replace hrx5 := (cell_far (p := ⟨b, 1, none⟩) hnx (.slice (some ax) x.f1.length c1)).trans hrx5; replace hrx5 := (cell_far (p := ⟨b, 2, none⟩) hnx (.int .i64 x.f2.f0)).trans hrx5; replace hrx5 := (cell_far (p := ⟨b, 3, none⟩) hnx (.slice A3 x.f2.f1.length c3)).trans hrx5; replace hrx5 := (cell_far (p := ⟨b, 4, none⟩) hnx (.int .i64 x.f3)).trans hrx5; clear hbox hb hb5 hx0 hx1 hx2 hx3 hx4; have bz0 : w5.cell? ⟨b, 0, none⟩ = some (.int .i64 0) := (blk_cell BK.out 0).trans rfl; have bf0 := blk_frozen BK.out 0; have bz1 : w5.cell? ⟨b, 1, none⟩ = some (.slice none 0 0) := (blk_cell BK.out 1).trans rfl; have bf1 := blk_frozen BK.out 1; have bz2 : w5.cell? ⟨b, 2, none⟩ = some (.int .i64 0) := (blk_cell BK.out 2).trans rfl; have bf2 := blk_frozen BK.out 2; have bz3 : w5.cell? ⟨b, 3, none⟩ = some (.slice none 0 0) := (blk_cell BK.out 3).trans rfl; have bf3 := blk_frozen BK.out 3; have bz4 : w5.cell? ⟨b, 4, none⟩ = some (.int .i64 0) := (blk_cell BK.out 4).trans rfl; have bf4 := blk_frozen BK.out 4))
      go_roundg k1
      case measure => have := HJ.out; omega
      case rel => exact ⟨m + 1, _, M, cs, rfl, ⟨by have := HI.out; have := HL.out; first | omega | (unfold wrap64; omega)⟩, ⟨by have := HJ.out; omega⟩, H, HV⟩
    ·have c1b : ((x.f1.length : Int) == 1) = false := by simpa using fun h : (x.f1.length : Int) = 1 => h1 (by omega)
     rw [if_neg (fun h => h1 h.1)] at H'
     have H := Aside0.mk H'
     clear H'
     go_wp2_with (first | ((with_reducible refine gate_dst (N := 5) rfl ?_); refine box_event ?hg (N := 5) ?hd (cs := #[.int .i64 0, .slice none 0 0, .int .i64 0, .slice none 0 0, .int .i64 0]) (t := 96) ?hr ?_; (case hd => rfl); (case hg => rfl); (case hr => first | (go_simp; done) | (go_simp; rfl)); intro b hb5 w5 hbox hb; have BE := Aside0.mk hb5; have BK := Aside0.mk hbox; have HV := Aside0.mk (UnB.box HU.out hb hb5 (.int .i64 x.f0) (.slice A1 x.f1.length c1) (.int .i64 x.f2.f0) (.slice A3 x.f2.f1.length c3) (.int .i64 x.f3)); clear hbox hb hb5 hx0 hx1 hx2 hx3 hx4; have bz0 : w5.cell? ⟨b, 0, none⟩ = some (.int .i64 0) := (blk_cell BK.out 0).trans rfl; have bf0 := blk_frozen BK.out 0; have bz1 : w5.cell? ⟨b, 1, none⟩ = some (.slice none 0 0) := (blk_cell BK.out 1).trans rfl; have bf1 := blk_frozen BK.out 1; have bz2 : w5.cell? ⟨b, 2, none⟩ = some (.int .i64 0) := (blk_cell BK.out 2).trans rfl; have bf2 := blk_frozen BK.out 2; have bz3 : w5.cell? ⟨b, 3, none⟩ = some (.slice none 0 0) := (blk_cell BK.out 3).trans rfl; have bf3 := blk_frozen BK.out 3; have bz4 : w5.cell? ⟨b, 4, none⟩ = some (.int .i64 0) := (blk_cell BK.out 4).trans rfl; have bf4 := blk_frozen BK.out 4))
     go_roundg k1
     case measure => have := HJ.out; omega
     case rel => exact ⟨m + 1, _, M, cs, rfl, ⟨by have := HI.out; have := HL.out; first | omega | (unfold wrap64; omega)⟩, ⟨by have := HJ.out; omega⟩, H, HV⟩
   ·have cb : decide (i < (l.length : Int)) = false := decide_eq_false (by have := HI.out; omega)
    have e : M = r := by
     have := H.out
     rw [List.drop_eq_nil_of_le (by omega)] at this
     exact Option.some.inj this
    subst e
    have hl := HU.out.hl
    go_wp2
    go_ret
    exact ⟨some ⟨g, 0, none⟩, 20, by first | (rw [hl]; rfl) | simp [hl], HU.out.C, HU.out.hb⟩
end Go.Proofs.YtjijikgandkphaaDoor.G
