/- The library's table of powers of ten lies as its initialiser lays it: kept from world to world. -/
import Derived.Test.YtlgndfplikhflaaDoorProg
import Derived.Lib.LaidTab
import Derived.Sort.Grow
import Derived.Below
import Derived.KernelRfl
import Derived.Lib.ItoaMem
import Derived.RowKit
import Derived.Test.YtlgndfplikhflaaDoorShelf
namespace Go.Proofs.YtlgndfplikhflaaDoorW.Tab
open Go.Lib Go.RowKit
set_option linter.unusedVariables false
set_option linter.unusedSimpArgs false
/-- The powers of ten are laid. -/
def TabOK (w : World) : Prop := TabIs Tryd.prog w "internal/strconv.uint64pow10" .u64 pow10Tab
theorem tab_below {w w' : World} (h : TabOK w) (hb : Below w.heap.size w w') : TabOK w' := by
  have hg : ∃ g, Tryd.prog.globalNamed "internal/strconv.uint64pow10" = some g := by
    refine Option.isSome_iff_exists.mp ?_
    kernel_rfl
  obtain ⟨g, hg⟩ := hg
  unfold TabOK TabIs World.var? at h ⊢
  rw [hg] at h ⊢
  simp only [Option.bind_some] at h ⊢
  have hlt : g < w.heap.size := by
    rcases Nat.lt_or_ge g w.heap.size with h' | h'
    · exact h'
    · rw [Array.getElem?_eq_none h'] at h; cases h
  rw [hb.block g hlt]
  exact h
end Go.Proofs.YtlgndfplikhflaaDoorW.Tab
