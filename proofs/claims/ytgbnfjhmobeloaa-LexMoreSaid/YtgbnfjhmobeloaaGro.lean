import Derived.Test.YtgbnfjhmobeloaaWMore
import Derived.Sort.Grow
import Derived.Shelf.SlSortCmp.WholeK
namespace Go.Proofs.YtgbnfjhmobeloaaW.PrintWords
open Go.RowKit
set_option linter.unusedVariables false
set_option linter.unusedSimpArgs false
def Gro (w W : World) : Prop := ∃ (q : Nat) (os : Array Obj), W = Go.Sort.grow (w.drewN q) os
theorem Gro.refl (w : World) : Gro w w := ⟨0, #[], by rw [Go.Sort.grow_empty]; rfl⟩
theorem gro_step {w W W2 : World} (h : Gro w W) (k : Gro W W2) : Gro w W2 := by
 obtain ⟨q, os, rfl⟩ := h
 obtain ⟨q2, os2, rfl⟩ := k
 refine ⟨q + q2, os ++ os2, ?_⟩
 show Go.Sort.grow (Go.Sort.grow ((w.drewN q).drewN q2) os) os2 = _
 rw [Go.Sort.grow_grow, World.drewN_drewN]
theorem gro_alloc {w W : World} (h : Gro w W) (o : Obj) : Gro w (W.alloc o) := gro_step h ⟨0, #[o], by rw [Go.Sort.alloc_eq_grow]; rfl⟩
theorem gro_drewN {w W : World} (h : Gro w W) (n : Nat) : Gro w (W.drewN n) := gro_step h ⟨n, #[], by rw [Go.Sort.grow_empty]⟩
theorem gro_drew1 {w W : World} (h : Gro w W) : Gro w W.drew := gro_drewN h 1
theorem gro_below {w W : World} (h : Gro w W) : Below w.heap.size w W := by
 obtain ⟨q, os, rfl⟩ := h
 have h0 : ∀ (k : Nat), (w.drewN k).heap = w.heap ∧ (w.drewN k).os = w.os ∧ (w.drewN k).tape = w.tape ∧ (w.drewN k).output = w.output := fun _ => ⟨rfl, rfl, rfl, rfl⟩
 refine ⟨(h0 q).2.1, (h0 q).2.2.1, (h0 q).2.2.2, ?_, fun i hi => ?_⟩
 ·simp [Go.Sort.grow, (h0 q).1]
 ·show (w.heap ++ os)[i]? = _
  rw [Array.getElem?_append_left hi]
theorem gro_size {w W : World} (h : Gro w W) : w.heap.size ≤ W.heap.size := (gro_below h).size
theorem blk_gro {w w1 : World} {g : Nat} {o : Obj} (h : w.heap[g]? = some o) (hb : Gro w w1) : w1.heap[g]? = some o := blk_below h (gro_below hb)
section
variable {P : Program} {ops : Array Oper} {rest : List Oper} {o : Oper} {a : Act} {Q : Exit → Act → World → Prop} {Kc : Act → World → Prop} {α : Type}
theorem box_eventG {W : World} (hgd : o.guard = none) {N : Tmp} (_hd : o.dst = some N) {cs : Array Value} {t : TypeId}
  (hrun : (execOp a.eval o).run P W = .ok (.value (.pointer (some ⟨W.heap.size, 0, none⟩))) (W.alloc (.cells cs t (0, 0))))
  (h : ∀ g, g = W.heap.size → ∀ w1, w1.heap[g]? = some (.cells cs t (0, 0)) → Gro W w1 → wpList P ops Q rest (a.put o.dst (.pointer (some ⟨g, 0, none⟩))) w1) : wpList P ops Q (o :: rest) a W :=
 Kd.event_run hgd hrun (h _ rfl _ (blk_new W _) (gro_alloc (Gro.refl _) _))
theorem R_litG_step (d : Kd α) {w0 W : World} (base e : Nat) (hw : Region.wanted o (yielded ops a.tmps) = true) {N : Tmp} (_hd : o.dst = some N) {xs : List α} {inner : List Value} {ok okp : Nat → Prop}
  (hrun : (execOp a.eval o).run P W = .ok (.value (.slice (some ⟨W.heap.size, 0, none⟩) xs.length xs.length)) (W.alloc (.cells inner.toArray e)))
  (hrep : Reps (d.M W base okp) d.sz xs inner) (hok : ∀ k, okp k → ok k) (hfresh : ok W.heap.size) (HB : Below base w0 W) (hbase : base ≤ W.heap.size) (hm : xs.length ≤ 9223372036854775807)
  (h : ∀ v1 w1, d.R e w1 base ok v1 xs → Gro W w1 → W.grownBy w1 none → (∃ b, v1.ownBlock = some b ∧ W.heap.size ≤ b) → Kc (a.put o.dst v1) w1) : if Region.wanted o (yielded ops a.tmps) = true then Oper.wp P o a W Kc Q else Kc (a.put o.dst undef) W := by
 refine event_step hw hrun (h _ _ ⟨fun k hk => ?_, inner, ?_, ?_⟩ (gro_alloc (Gro.refl _) _) (World.grownBy_alloc W _ none) ⟨W.heap.size, by simp [Value.ownBlock], Nat.le_refl _⟩)
 ·have : W.heap.size = k := by simpa [Value.ownBlock] using hk
  subst this
  exact hfresh
 ·have h2 := World.ownsRow_lit (base := base) (e := e) (size := d.sz) W inner.toArray xs.length hbase (by simpa [maxLen] using hm) (by simpa using hrep.1)
  simpa using h2
 ·refine hrep.imp_ (fun p c hp => d.M_mono (fun k hk => ⟨hok k hk.1, fun he => ?_⟩) (Kd.M_below (d.M_bound hp) (below_alloc (Below.refl _ _) _)))
  have h3 : k = W.heap.size := by simpa [Value.ownBlock] using he
  have := hk.2.2.1
  omega
end
end Go.Proofs.YtgbnfjhmobeloaaW.PrintWords
