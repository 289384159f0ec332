-- printed by wip/tool/gprint.py, a program of this work, out of the translation; Lean checks it
import Derived.Test.YtlgndfplikhflaaDoorProg
import Derived.Below
import Derived.Deep.Draws
import Derived.Deep.AppendLies
import Derived.Maps.AppendAt
import Derived.OwnWalk
import Derived.Laws.BytesArg
import Derived.Laws.MakeOwn
import Derived.Laws.OwnMore
import Derived.Deep.OwnRows
import Derived.Tactics
import Derived.Lib.ConvBytes
import Derived.Laws.Slices
import Derived.WalkKit
import Derived.KernelRfl
import Derived.RowKit3
import Derived.Deep.LoopGhost
import Derived.Deep.QuietTactic
import Derived.BigQuiet
import Derived.WideLaws
import Derived.Deep.DeepCutAuto
import Derived.Deep.CutBlock
import Derived.Deep.RegionHeld3
import Derived.Laws.Rows
import Derived.Lib.AppendStr
import Derived.ArgAppend
import Derived.Laws.IdiomCopy
import Derived.OrdersHeld
import Derived.Laws.BitsLemmas
import Derived.RowKit
import Derived.Shelf.SlSortCmp.NoneTotal
import Derived.Maps.OwnOps
import Derived.Maps.OwnSet
import Derived.Maps.Views
import Derived.Test.YtlgndfplikhflaaDoorTab
import Derived.Test.YtlgndfplikhflaaDoorShelf
import Derived.Lib.ItoaLen
import Derived.Test.YtlgndfplikhflaaDoorGro
import Derived.Test.YtlgndfplikhflaaDoorRk
import Derived.Test.YtlgndfplikhflaaDoorRkc
import Derived.Test.YtlgndfplikhflaaDoorWWords
import Derived.Test.YtlgndfplikhflaaDoorWLast
import Derived.Test.YtlgndfplikhflaaDoorWTab
import Derived.Test.YtlgndfplikhflaaDoorWFour
import Derived.Test.YtlgndfplikhflaaDoorWQPut
import Derived.Test.YtlgndfplikhflaaDoorWApart
import Derived.Test.YtlgndfplikhflaaDoorWArr
import Derived.Test.YtlgndfplikhflaaDoorWZeros
import Derived.Test.YtlgndfplikhflaaDoorWFoot
import Derived.Test.YtlgndfplikhflaaDoorWKept
import Derived.Test.YtlgndfplikhflaaDoorWShare
import Derived.Test.YtlgndfplikhflaaDoorWN
import Derived.Test.YtlgndfplikhflaaDoorWFootNe
import Derived.Test.YtlgndfplikhflaaDoorWAt
import Derived.Test.YtlgndfplikhflaaDoorWEqStruct
import Derived.Test.YtlgndfplikhflaaDoorWRepsOne
import Derived.Test.YtlgndfplikhflaaDoorWInv
import Derived.Test.YtlgndfplikhflaaDoorWInvWords
import Derived.Test.YtlgndfplikhflaaDoorWGuard
import Derived.Test.YtlgndfplikhflaaDoorWNEv
import Derived.Test.YtlgndfplikhflaaDoorWMore
import Derived.Test.YtlgndfplikhflaaDoorWVWords
namespace Go.Proofs.YtlgndfplikhflaaDoor.G
open Go.RowKit Go.Proofs.YtlgndfplikhflaaDoorW.PrintWords Go.Proofs.YtlgndfplikhflaaDoorW.PrintLast Go.Proofs.YtlgndfplikhflaaDoorW.PrintMore Go.Proofs.YtlgndfplikhflaaDoorW.VWords Go.Proofs.YtlgndfplikhflaaDoorW.Tab
attribute [local go_sem] max2_int min2_int max_two min_two max_three min_three max_four min_four   -- for this text's walks alone
set_option linter.unusedVariables false
set_option linter.unusedSimpArgs false



def errW : Option Int → Value
  | none => .nilIface
  | some c => .iface 0 (.int .i64 c)
theorem errW_none : errW none = .nilIface := rfl
theorem errW_some (c : Int) : errW (some c) = .iface 0 (.int .i64 c) := rfl

theorem info3 : (Tryd.prog.info? 3).map (fun i => (i.zero, i.size, i.bytes)) = some (some (.int .i64 0), 1, 8) := by kernel_rfl
theorem info5 : (Tryd.prog.info? 5).map (fun i => (i.zero, i.size, i.bytes)) = some (some (.int .u8 0), 1, 1) := by kernel_rfl
theorem info36 : (Tryd.prog.info? 36).map (fun i => (i.zero, i.size, i.bytes)) = some (some (.agg #[(.int .i64 0), (.slice none 0 0), (.int .i64 0)]), 3, 40) := by kernel_rfl
theorem info47 : (Tryd.prog.info? 47).map (fun i => (i.zero, i.size, i.bytes)) = some (some (.agg #[(.int .i64 0), (.slice none 0 0), (.int .i64 0)]), 3, 40) := by kernel_rfl
-- the values' own types

/-! #### struct type 24 -/
structure S24 where
  f0 : Int
  f1 : (List Int)
def z24 : S24 := ⟨(0 : Int), ([] : List Int)⟩
def k24 : Kd S24 := Kd.iso (Kd.pair (Kd.int .i64) (Kd.slice 3 (Kd.int .i64))) (fun x : S24 => (x.f0, x.f1))
theorem k24_open {w : World} {x : S24} {cs : List Value} (h : k24.K w x cs) : ∃ A1 c1, cs = [.int .i64 x.f0, .slice A1 x.f1.length c1] ∧ x.f1.length ≤ c1 ∧ (Kd.int .i64).C w A1 x.f1.length x.f1 := by
  obtain ⟨_, _, rfl, rfl, ⟨A1, c1, rfl, l1, g1⟩⟩ := h
  exact ⟨A1, c1, rfl, l1, g1⟩
theorem k24_openM {w : World} {base : Nat} {ok : Nat → Prop} {x : S24} {cs : List Value} (h : k24.M w base ok x cs) : ∃ v1, cs = [.int .i64 x.f0, v1] ∧ (Kd.int .i64).R 3 w base ok v1 x.f1 := by
  obtain ⟨_, _, rfl, rfl, ⟨v1, rfl, g1⟩⟩ := h
  exact ⟨v1, rfl, g1⟩
theorem k24_mk (w : World) (x : S24) {A1 : Option Addr} {c1 : Nat} (l1 : x.f1.length ≤ c1) (g1 : (Kd.int .i64).C w A1 x.f1.length x.f1) : k24.K w x [.int .i64 x.f0, .slice A1 x.f1.length c1] := ⟨[.int .i64 x.f0], [.slice A1 x.f1.length c1], rfl, rfl, ⟨A1, c1, rfl, l1, g1⟩⟩
theorem k24_mkM (w : World) (base : Nat) (ok : Nat → Prop) (x : S24) {v1 : Value} (g1 : (Kd.int .i64).R 3 w base ok v1 x.f1) : k24.M w base ok x [.int .i64 x.f0, v1] := ⟨[.int .i64 x.f0], [v1], rfl, rfl, ⟨v1, rfl, g1⟩⟩

/-! #### struct type 47 -/

/-! #### struct type 36 -/
structure S36 where
  f0 : S24
  f1 : Int
def z36 : S36 := ⟨z24, (0 : Int)⟩
def k36 : Kd S36 := Kd.iso (Kd.pair k24 (Kd.int .i64)) (fun x : S36 => (x.f0, x.f1))
theorem k36_open {w : World} {x : S36} {cs : List Value} (h : k36.K w x cs) : ∃ A1 c1, cs = [.int .i64 x.f0.f0, .slice A1 x.f0.f1.length c1, .int .i64 x.f1] ∧ x.f0.f1.length ≤ c1 ∧ (Kd.int .i64).C w A1 x.f0.f1.length x.f0.f1 := by
  obtain ⟨_, _, rfl, s0, rfl⟩ := h
  obtain ⟨A1, c1, rfl, l1, g1⟩ := k24_open s0
  exact ⟨A1, c1, rfl, l1, g1⟩
theorem k36_openM {w : World} {base : Nat} {ok : Nat → Prop} {x : S36} {cs : List Value} (h : k36.M w base ok x cs) : ∃ v1, cs = [.int .i64 x.f0.f0, v1, .int .i64 x.f1] ∧ (Kd.int .i64).R 3 w base ok v1 x.f0.f1 := by
  obtain ⟨_, _, rfl, s0, rfl⟩ := h
  obtain ⟨v1, rfl, g1⟩ := k24_openM s0
  exact ⟨v1, rfl, g1⟩
theorem k36_mk (w : World) (x : S36) {A1 : Option Addr} {c1 : Nat} (l1 : x.f0.f1.length ≤ c1) (g1 : (Kd.int .i64).C w A1 x.f0.f1.length x.f0.f1) : k36.K w x [.int .i64 x.f0.f0, .slice A1 x.f0.f1.length c1, .int .i64 x.f1] := ⟨[.int .i64 x.f0.f0, .slice A1 x.f0.f1.length c1], [.int .i64 x.f1], rfl, (k24_mk w x.f0 l1 g1), rfl⟩
theorem k36_mkM (w : World) (base : Nat) (ok : Nat → Prop) (x : S36) {v1 : Value} (g1 : (Kd.int .i64).R 3 w base ok v1 x.f0.f1) : k36.M w base ok x [.int .i64 x.f0.f0, v1, .int .i64 x.f1] := ⟨[.int .i64 x.f0.f0, v1], [.int .i64 x.f1], rfl, (k24_mkM w base ok x.f0 g1), rfl⟩
theorem k36_openF {W : World} {ok : Nat → Prop} {x : S36} {cs : List Value} (h : Kd.FK k36 W ok x cs) : ∃ A1 c1, cs = [.int .i64 x.f0.f0, .slice A1 x.f0.f1.length c1, .int .i64 x.f1] ∧ x.f0.f1.length ≤ c1 ∧ Kd.F (Kd.int .i64) W ok A1 x.f0.f1.length x.f0.f1 := by
  obtain ⟨A1, c1, rfl, l1, _⟩ := k36_open (Kd.FK_now h)
  exact ⟨A1, c1, rfl, l1, (fun W' hW => by obtain ⟨A1_, c1_, he, l1_, g1_⟩ := k36_open (h W' hW); injection (Option.some.inj (show some (Value.slice A1 x.f0.f1.length c1) = some (Value.slice A1_ x.f0.f1.length c1_) from congrArg (fun l => l[1]?) he)) with ha_ _ _; rw [ha_]; exact g1_)⟩
theorem k36_mkF (W : World) (ok : Nat → Prop) (x : S36) {A1 : Option Addr} {c1 : Nat} (l1 : x.f0.f1.length ≤ c1) (g1 : Kd.F (Kd.int .i64) W ok A1 x.f0.f1.length x.f0.f1) : Kd.FK k36 W ok x [.int .i64 x.f0.f0, .slice A1 x.f0.f1.length c1, .int .i64 x.f1] := fun W2 hW => k36_mk W2 x l1 (g1 W2 hW)
def rd_T36 (xs : List S36) (i : Int) : S36 := xs.getD i.toNat z36
theorem at_T36 {w : World} {A : Option Addr} {n : Nat} {xs : List S36} (h : Kd.C k36 w A n xs) (i : Int) (h0 : 0 ≤ i) (h1 : i < n) : ∃ ad A1 c1, A = some ad ∧ w.cell? (ad.add (i.toNat * 3)) = some (.int .i64 (rd_T36 xs i).f0.f0) ∧ w.cell? ⟨(ad.add (i.toNat * 3)).block, (ad.add (i.toNat * 3)).off + 1, none⟩ = some (.slice A1 (rd_T36 xs i).f0.f1.length c1) ∧ w.cell? ⟨(ad.add (i.toNat * 3)).block, (ad.add (i.toNat * 3)).off + 2, none⟩ = some (.int .i64 (rd_T36 xs i).f1) ∧ (rd_T36 xs i).f0.f1.length ≤ c1 ∧ (Kd.int .i64).C w A1 (rd_T36 xs i).f0.f1.length (rd_T36 xs i).f0.f1 := by
  obtain ⟨ad, c, e, _, hK, hc0⟩ := Kd.C_get h z36 i h0 h1
  have hc : ∀ j u, c[j]? = some u → w.cell? (ad.add (i.toNat * 3 + j)) = some u := hc0
  obtain ⟨A1, c1, rfl, l1, g1⟩ := k36_open hK
  exact ⟨ad, A1, c1, e, hc 0 _ rfl, by rw [← add_field _ _ 1 (by omega)]; exact hc 1 _ rfl, by rw [← add_field _ _ 2 (by omega)]; exact hc 2 _ rfl, l1, g1⟩

end Go.Proofs.YtlgndfplikhflaaDoor.G
