import Derived.Test.YtjijikgandkphaaDoorProg
import Derived.Lib.LaidTab
import Derived.Sort.Grow
import Derived.Below
import Derived.KernelRfl
import Derived.Lib.ItoaMem
import Derived.RowKit
import Derived.Test.YtjijikgandkphaaDoorShelf
namespace Go.Proofs.YtjijikgandkphaaDoorW.Tab
open Go.Lib Go.RowKit
set_option linter.unusedVariables false
set_option linter.unusedSimpArgs false
def TabOK (w : World) : Prop := TabIs Tryd.prog w "internal/strconv.uint64pow10" .u64 pow10Tab
theorem tab_below {w w' : World} (h : TabOK w) (hb : Below w.heap.size w w') : TabOK w' := by
 have hg : ∃ g, Tryd.prog.globalNamed "internal/strconv.uint64pow10" = some g := by
  refine Option.isSome_iff_exists.mp ?_
  kernel_rfl
 obtain ⟨g, hg⟩ := hg
 unfold TabOK TabIs World.var? at h ⊢
 rw [hg] at h ⊢
 simp only [Option.bind_some] at h ⊢
 have hlt : g < w.heap.size := by
  rcases Nat.lt_or_ge g w.heap.size with h' | h'
  ·exact h'
  ·rw [Array.getElem?_eq_none h'] at h; cases h
 rw [hb.block g hlt]
 exact h
theorem below_grow_drewN (w : World) (k : Nat) (os : Array Obj) : Below w.heap.size w (Go.Sort.grow (w.drewN k) os) := by
 have h0 : ∀ (k : Nat), (w.drewN k).heap = w.heap ∧ (w.drewN k).os = w.os ∧ (w.drewN k).tape = w.tape ∧ (w.drewN k).output = w.output := fun _ => ⟨rfl, rfl, rfl, rfl⟩
 refine ⟨(h0 k).2.1, (h0 k).2.2.1, (h0 k).2.2.2, ?_, fun i hi => ?_⟩
 ·simp [Go.Sort.grow, (h0 k).1]
 ·show (w.heap ++ os)[i]? = _
  rw [Array.getElem?_append_left hi]
end Go.Proofs.YtjijikgandkphaaDoorW.Tab
