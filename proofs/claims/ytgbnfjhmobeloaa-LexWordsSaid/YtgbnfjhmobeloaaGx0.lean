import Derived.Test.YtgbnfjhmobeloaaProg
import Derived.Below
import Derived.Deep.Draws
import Derived.Deep.AppendLies
import Derived.Maps.AppendAt
import Derived.OwnWalk
import Derived.Laws.BytesArg
import Derived.Laws.MakeOwn
import Derived.Laws.OwnMore
import Derived.Deep.OwnRows
import Derived.Tactics
import Derived.Lib.ConvBytes
import Derived.Laws.Slices
import Derived.WalkKit
import Derived.KernelRfl
import Derived.RowKit3
import Derived.Deep.LoopGhost
import Derived.Deep.QuietTactic
import Derived.BigQuiet
import Derived.WideLaws
import Derived.Deep.DeepCutAuto
import Derived.Deep.CutBlock
import Derived.Deep.RegionHeld3
import Derived.Laws.Rows
import Derived.Lib.AppendStr
import Derived.ArgAppend
import Derived.Laws.IdiomCopy
import Derived.OrdersHeld
import Derived.Laws.BitsLemmas
import Derived.RowKit
import Derived.Test.YtgbnfjhmobeloaaShelf
import Derived.RangeFuncNested
import Derived.RangeFuncBound
import Derived.RangeFuncCalls
import Derived.RangeFuncLeaves
import Derived.Shelf.SlSortCmp.NoneTotal
import Derived.Lib.RuneBytes
import Derived.Test.YtgbnfjhmobeloaaGro
import Derived.Sort.LoopGhostIn
import Derived.Shelf.AbstractIn
import Derived.LoopNIn
import Derived.OwnWalkIn
import Derived.TacticsInMore
import Derived.Maps.AppendAt
import Derived.Test.YtgbnfjhmobeloaaWWords
import Derived.Test.YtgbnfjhmobeloaaWLast
import Derived.Test.YtgbnfjhmobeloaaWTab
import Derived.Test.YtgbnfjhmobeloaaWFour
import Derived.Test.YtgbnfjhmobeloaaWQPut
import Derived.Test.YtgbnfjhmobeloaaWApart
import Derived.Test.YtgbnfjhmobeloaaWArr
import Derived.Test.YtgbnfjhmobeloaaWZeros
import Derived.Test.YtgbnfjhmobeloaaWFoot
import Derived.Test.YtgbnfjhmobeloaaWKept
import Derived.Test.YtgbnfjhmobeloaaWShare
import Derived.Test.YtgbnfjhmobeloaaWN
import Derived.Test.YtgbnfjhmobeloaaWFootNe
import Derived.Test.YtgbnfjhmobeloaaWAt
import Derived.Test.YtgbnfjhmobeloaaWEqStruct
import Derived.Test.YtgbnfjhmobeloaaWRepsOne
import Derived.Test.YtgbnfjhmobeloaaWInv
import Derived.Test.YtgbnfjhmobeloaaWInvWords
import Derived.Test.YtgbnfjhmobeloaaWGuard
import Derived.Test.YtgbnfjhmobeloaaWNEv
import Derived.Test.YtgbnfjhmobeloaaWMore
import Derived.Test.YtgbnfjhmobeloaaWVWords
namespace Go.Proofs.Ytgbnfjhmobeloaa.G
open Go.RowKit Go.Proofs.YtgbnfjhmobeloaaW.PrintWords Go.Proofs.YtgbnfjhmobeloaaW.PrintLast Go.Proofs.YtgbnfjhmobeloaaW.PrintMore Go.Proofs.YtgbnfjhmobeloaaW.VWords
attribute [local go_sem] max2_int min2_int max_two min_two max_three min_three max_four min_four
set_option linter.unusedVariables false
set_option linter.unusedSimpArgs false
def errW : Option Int → Value
  | none => .nilIface
  | some c => .iface 0 (.int .i64 c)
theorem errW_none : errW none = .nilIface := rfl
theorem errW_some (c : Int) : errW (some c) = .iface 0 (.int .i64 c) := rfl
theorem info3 : (Try.prog.info? 3).map (fun i => (i.zero, i.size, i.bytes)) = some (some (.int .i64 0), 1, 8) := by kernel_rfl
theorem info4 : (Try.prog.info? 4).map (fun i => (i.zero, i.size, i.bytes)) = some (some (.bool false), 1, 1) := by kernel_rfl
theorem info25 : (Try.prog.info? 25).map (fun i => (i.zero, i.size, i.bytes)) = some (some (.slice none 0 0), 1, 24) := by kernel_rfl
theorem info47 : (Try.prog.info? 47).map (fun i => (i.zero, i.size, i.bytes)) = some (some (.agg #[(.int .i64 0), (.int .i64 0), (.int .i64 0), (.int .i64 0), (.int .i64 0)]), 5, 40) := by kernel_rfl
theorem info53 : (Try.prog.info? 53).map (fun i => (i.zero, i.size, i.bytes)) = some (some (.agg #[(.string ⟨#[]⟩), (.int .i64 0), (.int .i64 0)]), 3, 32) := by kernel_rfl
theorem info71 : (Try.prog.info? 71).map (fun i => (i.zero, i.size, i.bytes)) = some (some (.agg #[(.slice none 0 0), (.int .i64 0), (.int .i64 0)]), 3, 40) := by kernel_rfl
structure S114 where
  f0 : Int
  f1 : Int
  f2 : Int
  f3 : Int
def z114 : S114 := ⟨(0 : Int), (0 : Int), (0 : Int), (0 : Int)⟩
def k114 : Kd S114 := Kd.iso (Kd.pair (Kd.int .i64) (Kd.pair (Kd.int .i64) (Kd.pair (Kd.int .i64) (Kd.int .i64)))) (fun x : S114 => (x.f0, x.f1, x.f2, x.f3))
theorem k114_open {w : World} {x : S114} {cs : List Value} (h : k114.K w x cs) : cs = [.int .i64 x.f0, .int .i64 x.f1, .int .i64 x.f2, .int .i64 x.f3] := by
  obtain ⟨_, _, rfl, rfl, ⟨_, _, rfl, rfl, ⟨_, _, rfl, rfl, rfl⟩⟩⟩ := h
  exact rfl
theorem k114_mkM (w : World) (base : Nat) (ok : Nat → Prop) (x : S114)  : k114.M w base ok x [.int .i64 x.f0, .int .i64 x.f1, .int .i64 x.f2, .int .i64 x.f3] := ⟨[.int .i64 x.f0], [.int .i64 x.f1, .int .i64 x.f2, .int .i64 x.f3], rfl, rfl, ⟨[.int .i64 x.f1], [.int .i64 x.f2, .int .i64 x.f3], rfl, rfl, ⟨[.int .i64 x.f2], [.int .i64 x.f3], rfl, rfl, rfl⟩⟩⟩
def rd_T114 (xs : List S114) (i : Int) : S114 := xs.getD i.toNat z114
theorem at_T114 {w : World} {A : Option Addr} {n : Nat} {xs : List S114} (h : Kd.C k114 w A n xs) (i : Int) (h0 : 0 ≤ i) (h1 : i < n) : ∃ ad , A = some ad ∧ w.cell? (ad.add (i.toNat * 4)) = some (.int .i64 (rd_T114 xs i).f0) ∧ w.cell? ⟨(ad.add (i.toNat * 4)).block, (ad.add (i.toNat * 4)).off + 1, none⟩ = some (.int .i64 (rd_T114 xs i).f1) ∧ w.cell? ⟨(ad.add (i.toNat * 4)).block, (ad.add (i.toNat * 4)).off + 2, none⟩ = some (.int .i64 (rd_T114 xs i).f2) ∧ w.cell? ⟨(ad.add (i.toNat * 4)).block, (ad.add (i.toNat * 4)).off + 3, none⟩ = some (.int .i64 (rd_T114 xs i).f3) := by
  obtain ⟨ad, c, e, _, hK, hc0⟩ := Kd.C_get h z114 i h0 h1
  have hc : ∀ j u, c[j]? = some u → w.cell? (ad.add (i.toNat * 4 + j)) = some u := hc0
  obtain rfl := k114_open hK
  exact ⟨ad, e, hc 0 _ rfl, by rw [← add_field _ _ 1 (by omega)]; exact hc 1 _ rfl, by rw [← add_field _ _ 2 (by omega)]; exact hc 2 _ rfl, by rw [← add_field _ _ 3 (by omega)]; exact hc 3 _ rfl⟩
structure S47 where
  f0 : Int
  f1 : Int
  f2 : Int
  f3 : Int
  f4 : Int
def z47 : S47 := ⟨(0 : Int), (0 : Int), (0 : Int), (0 : Int), (0 : Int)⟩
def k47 : Kd S47 := Kd.iso (Kd.pair (Kd.int .i64) (Kd.pair (Kd.int .i64) (Kd.pair (Kd.int .i64) (Kd.pair (Kd.int .i64) (Kd.int .i64))))) (fun x : S47 => (x.f0, x.f1, x.f2, x.f3, x.f4))
theorem k47_open {w : World} {x : S47} {cs : List Value} (h : k47.K w x cs) : cs = [.int .i64 x.f0, .int .i64 x.f1, .int .i64 x.f2, .int .i64 x.f3, .int .i64 x.f4] := by
  obtain ⟨_, _, rfl, rfl, ⟨_, _, rfl, rfl, ⟨_, _, rfl, rfl, ⟨_, _, rfl, rfl, rfl⟩⟩⟩⟩ := h
  exact rfl
theorem k47_openM {w : World} {base : Nat} {ok : Nat → Prop} {x : S47} {cs : List Value} (h : k47.M w base ok x cs) : cs = [.int .i64 x.f0, .int .i64 x.f1, .int .i64 x.f2, .int .i64 x.f3, .int .i64 x.f4] := by
  obtain ⟨_, _, rfl, rfl, ⟨_, _, rfl, rfl, ⟨_, _, rfl, rfl, ⟨_, _, rfl, rfl, rfl⟩⟩⟩⟩ := h
  exact rfl
theorem k47_mkM (w : World) (base : Nat) (ok : Nat → Prop) (x : S47)  : k47.M w base ok x [.int .i64 x.f0, .int .i64 x.f1, .int .i64 x.f2, .int .i64 x.f3, .int .i64 x.f4] := ⟨[.int .i64 x.f0], [.int .i64 x.f1, .int .i64 x.f2, .int .i64 x.f3, .int .i64 x.f4], rfl, rfl, ⟨[.int .i64 x.f1], [.int .i64 x.f2, .int .i64 x.f3, .int .i64 x.f4], rfl, rfl, ⟨[.int .i64 x.f2], [.int .i64 x.f3, .int .i64 x.f4], rfl, rfl, ⟨[.int .i64 x.f3], [.int .i64 x.f4], rfl, rfl, rfl⟩⟩⟩⟩
def rd_T47 (xs : List S47) (i : Int) : S47 := xs.getD i.toNat z47
theorem at_T47 {w : World} {A : Option Addr} {n : Nat} {xs : List S47} (h : Kd.C k47 w A n xs) (i : Int) (h0 : 0 ≤ i) (h1 : i < n) : ∃ ad , A = some ad ∧ w.cell? (ad.add (i.toNat * 5)) = some (.int .i64 (rd_T47 xs i).f0) ∧ w.cell? ⟨(ad.add (i.toNat * 5)).block, (ad.add (i.toNat * 5)).off + 1, none⟩ = some (.int .i64 (rd_T47 xs i).f1) ∧ w.cell? ⟨(ad.add (i.toNat * 5)).block, (ad.add (i.toNat * 5)).off + 2, none⟩ = some (.int .i64 (rd_T47 xs i).f2) ∧ w.cell? ⟨(ad.add (i.toNat * 5)).block, (ad.add (i.toNat * 5)).off + 3, none⟩ = some (.int .i64 (rd_T47 xs i).f3) ∧ w.cell? ⟨(ad.add (i.toNat * 5)).block, (ad.add (i.toNat * 5)).off + 4, none⟩ = some (.int .i64 (rd_T47 xs i).f4) := by
  obtain ⟨ad, c, e, _, hK, hc0⟩ := Kd.C_get h z47 i h0 h1
  have hc : ∀ j u, c[j]? = some u → w.cell? (ad.add (i.toNat * 5 + j)) = some u := hc0
  obtain rfl := k47_open hK
  exact ⟨ad, e, hc 0 _ rfl, by rw [← add_field _ _ 1 (by omega)]; exact hc 1 _ rfl, by rw [← add_field _ _ 2 (by omega)]; exact hc 2 _ rfl, by rw [← add_field _ _ 3 (by omega)]; exact hc 3 _ rfl, by rw [← add_field _ _ 4 (by omega)]; exact hc 4 _ rfl⟩
structure S53 where
  f0 : ByteArray
  f1 : Int
  f2 : Int
def z53 : S53 := ⟨(⟨#[]⟩ : ByteArray), (0 : Int), (0 : Int)⟩
def k53 : Kd S53 := Kd.iso (Kd.pair Kd.string (Kd.pair (Kd.int .i64) (Kd.int .i64))) (fun x : S53 => (x.f0, x.f1, x.f2))
theorem k53_open {w : World} {x : S53} {cs : List Value} (h : k53.K w x cs) : cs = [.string x.f0, .int .i64 x.f1, .int .i64 x.f2] := by
  obtain ⟨_, _, rfl, rfl, ⟨_, _, rfl, rfl, rfl⟩⟩ := h
  exact rfl
theorem k53_mkM (w : World) (base : Nat) (ok : Nat → Prop) (x : S53)  : k53.M w base ok x [.string x.f0, .int .i64 x.f1, .int .i64 x.f2] := ⟨[.string x.f0], [.int .i64 x.f1, .int .i64 x.f2], rfl, rfl, ⟨[.int .i64 x.f1], [.int .i64 x.f2], rfl, rfl, rfl⟩⟩
def rd_T53 (xs : List S53) (i : Int) : S53 := xs.getD i.toNat z53
theorem at_T53 {w : World} {A : Option Addr} {n : Nat} {xs : List S53} (h : Kd.C k53 w A n xs) (i : Int) (h0 : 0 ≤ i) (h1 : i < n) : ∃ ad , A = some ad ∧ w.cell? (ad.add (i.toNat * 3)) = some (.string (rd_T53 xs i).f0) ∧ w.cell? ⟨(ad.add (i.toNat * 3)).block, (ad.add (i.toNat * 3)).off + 1, none⟩ = some (.int .i64 (rd_T53 xs i).f1) ∧ w.cell? ⟨(ad.add (i.toNat * 3)).block, (ad.add (i.toNat * 3)).off + 2, none⟩ = some (.int .i64 (rd_T53 xs i).f2) := by
  obtain ⟨ad, c, e, _, hK, hc0⟩ := Kd.C_get h z53 i h0 h1
  have hc : ∀ j u, c[j]? = some u → w.cell? (ad.add (i.toNat * 3 + j)) = some u := hc0
  obtain rfl := k53_open hK
  exact ⟨ad, e, hc 0 _ rfl, by rw [← add_field _ _ 1 (by omega)]; exact hc 1 _ rfl, by rw [← add_field _ _ 2 (by omega)]; exact hc 2 _ rfl⟩
def rd_L6 (xs : List (List Int)) (i : Int) : (List Int) := xs.getD i.toNat ([] : List Int)
theorem at_L6 {w : World} {A : Option Addr} {n : Nat} {xs : List (List Int)} (h : Kd.C (Kd.slice 3 (Kd.int .i64)) w A n xs) (i : Int) (h0 : 0 ≤ i) (h1 : i < n) : ∃ ad A0 c0, A = some ad ∧ w.cell? (ad.add i.toNat) = some (.slice A0 (rd_L6 xs i).length c0) ∧ (rd_L6 xs i).length ≤ c0 ∧ (Kd.int .i64).C w A0 (rd_L6 xs i).length (rd_L6 xs i) := by
  obtain ⟨ad, c, e, _, hK, hc0⟩ := Kd.C_get h ([] : List Int) i h0 h1
  have hc : ∀ j u, c[j]? = some u → w.cell? (ad.add (i.toNat * 1 + j)) = some u := hc0
  obtain ⟨A0, c0, rfl, l0, g0⟩ := hK
  exact ⟨ad, A0, c0, e, by have hq := hc 0 _ rfl; rwa [Nat.mul_one, Nat.add_zero] at hq, l0, g0⟩
structure S106 where
  f0 : Int
  f1 : (List Int)
def k106 : Kd S106 := Kd.iso (Kd.pair (Kd.int .i64) (Kd.slice 3 (Kd.int .i64))) (fun x : S106 => (x.f0, x.f1))
structure S108 where
  f0 : Int
  f1 : (List Int)
  f2 : S106
  f3 : Int
def k108 : Kd S108 := Kd.iso (Kd.pair (Kd.int .i64) (Kd.pair (Kd.slice 3 (Kd.int .i64)) (Kd.pair k106 (Kd.int .i64)))) (fun x : S108 => (x.f0, x.f1, x.f2, x.f3))
structure S133 where
  f0 : Int
  f1 : ByteArray
  f2 : Int
  f3 : Int
  f4 : Int
def k133 : Kd S133 := Kd.iso (Kd.pair (Kd.int .i64) (Kd.pair Kd.string (Kd.pair (Kd.int .i64) (Kd.pair (Kd.int .i64) (Kd.int .i64))))) (fun x : S133 => (x.f0, x.f1, x.f2, x.f3, x.f4))
structure S138 where
  f0 : Int
  f1 : (List S133)
def k138 : Kd S138 := Kd.iso (Kd.pair (Kd.int .i64) (Kd.slice 133 k133)) (fun x : S138 => (x.f0, x.f1))
structure S71 where
  f0 : (List Int)
  f1 : Int
  f2 : Int
def z71 : S71 := ⟨([] : List Int), (0 : Int), (0 : Int)⟩
def k71 : Kd S71 := Kd.iso (Kd.pair (Kd.slice 3 (Kd.int .i64)) (Kd.pair (Kd.int .i64) (Kd.int .i64))) (fun x : S71 => (x.f0, x.f1, x.f2))
theorem k71_open {w : World} {x : S71} {cs : List Value} (h : k71.K w x cs) : ∃ A0 c0, cs = [.slice A0 x.f0.length c0, .int .i64 x.f1, .int .i64 x.f2] ∧ x.f0.length ≤ c0 ∧ (Kd.int .i64).C w A0 x.f0.length x.f0 := by
  obtain ⟨_, _, rfl, ⟨A0, c0, rfl, l0, g0⟩, ⟨_, _, rfl, rfl, rfl⟩⟩ := h
  exact ⟨A0, c0, rfl, l0, g0⟩
theorem k71_mkM (w : World) (base : Nat) (ok : Nat → Prop) (x : S71) {v0 : Value} (g0 : (Kd.int .i64).R 3 w base ok v0 x.f0) : k71.M w base ok x [v0, .int .i64 x.f1, .int .i64 x.f2] := ⟨[v0], [.int .i64 x.f1, .int .i64 x.f2], rfl, ⟨v0, rfl, g0⟩, ⟨[.int .i64 x.f1], [.int .i64 x.f2], rfl, rfl, rfl⟩⟩
def rd_T71 (xs : List S71) (i : Int) : S71 := xs.getD i.toNat z71
theorem at_T71 {w : World} {A : Option Addr} {n : Nat} {xs : List S71} (h : Kd.C k71 w A n xs) (i : Int) (h0 : 0 ≤ i) (h1 : i < n) : ∃ ad A0 c0, A = some ad ∧ w.cell? (ad.add (i.toNat * 3)) = some (.slice A0 (rd_T71 xs i).f0.length c0) ∧ w.cell? ⟨(ad.add (i.toNat * 3)).block, (ad.add (i.toNat * 3)).off + 1, none⟩ = some (.int .i64 (rd_T71 xs i).f1) ∧ w.cell? ⟨(ad.add (i.toNat * 3)).block, (ad.add (i.toNat * 3)).off + 2, none⟩ = some (.int .i64 (rd_T71 xs i).f2) ∧ (rd_T71 xs i).f0.length ≤ c0 ∧ (Kd.int .i64).C w A0 (rd_T71 xs i).f0.length (rd_T71 xs i).f0 := by
  obtain ⟨ad, c, e, _, hK, hc0⟩ := Kd.C_get h z71 i h0 h1
  have hc : ∀ j u, c[j]? = some u → w.cell? (ad.add (i.toNat * 3 + j)) = some u := hc0
  obtain ⟨A0, c0, rfl, l0, g0⟩ := k71_open hK
  exact ⟨ad, A0, c0, e, hc 0 _ rfl, by rw [← add_field _ _ 1 (by omega)]; exact hc 1 _ rfl, by rw [← add_field _ _ 2 (by omega)]; exact hc 2 _ rfl, l0, g0⟩
def Stp (w w' : World) : Prop := ∀ P : World → Prop, (∀ v o, P v → P (World.alloc v o)) → (∀ v n, P v → P (World.drewN v n)) → (∀ v, P v → P (World.drew v)) → P w → P w'
theorem Stp.refl (w : World) : Stp w w := fun _ _ _ _ h => h
theorem Stp.alloc {w w' : World} (h : Stp w w') (o : Obj) : Stp w (w'.alloc o) := fun P a b c p => a _ o (h P a b c p)
theorem Stp.drewN {w w' : World} (h : Stp w w') (n : Nat) : Stp w (w'.drewN n) := fun P a b c p => b _ n (h P a b c p)
theorem Stp.drew {w w' : World} (h : Stp w w') : Stp w w'.drew := fun P a b c p => c _ (h P a b c p)
theorem vU {α : Type} {d : Kd α} {e base : Nat} {ok : Nat → Prop} {w w' : World} {v : Value} {xs : List α} (h : Kd.V d e w base ok v xs) (s : Stp w w' := by repeat (first | (with_reducible first | exact Stp.refl _ | refine Stp.alloc ?_ _ | refine Stp.drewN ?_ _ | refine Stp.drew ?_) | exact Stp.refl _)) : Kd.V d e w' base ok v xs :=
  s (fun w => Kd.V d e w base ok v xs) (fun _ o h => Kd.V_alloc h o) (fun _ n h => Kd.V_drewN h n) (fun _ h => Kd.V_drew h) h
theorem nU {α : Type} {d : Kd α} {e base : Nat} {ok : Nat → Prop} {w w' : World} {v : Value} {xs : List α} (h : Kd.N d e w base ok v xs) (s : Stp w w' := by repeat (first | (with_reducible first | exact Stp.refl _ | refine Stp.alloc ?_ _ | refine Stp.drewN ?_ _ | refine Stp.drew ?_) | exact Stp.refl _)) : Kd.N d e w' base ok v xs :=
  s (fun w => Kd.N d e w base ok v xs) (fun _ o h => Kd.N_alloc h o) (fun _ n h => Kd.N_drewN h n) (fun _ h => Kd.N_drew h) h
theorem wU {w W W' : World} (h : Below w.heap.size w W) (s : Stp W W' := by repeat (first | (with_reducible first | exact Stp.refl _ | refine Stp.alloc ?_ _ | refine Stp.drewN ?_ _ | refine Stp.drew ?_) | exact Stp.refl _)) : Below w.heap.size w W' :=
  s (fun v => Below w.heap.size w v) (fun _ o h => below_alloc h o) (fun _ n h => pw_below_drewN h n) (fun _ h => below_drew1 h) h
def Sts (g : Nat) (w w' : World) : Prop := ∀ P : World → Prop, (∀ v o, P v → P (World.alloc v o)) → (∀ v n, P v → P (World.drewN v n)) → (∀ v, P v → P (World.drew v)) → (∀ v j u, P v → P (World.setCell v ⟨g, j, none⟩ u)) → P w → P w'
theorem Sts.refl (g : Nat) (w : World) : Sts g w w := fun _ _ _ _ _ h => h
theorem Sts.alloc {g : Nat} {w w' : World} (h : Sts g w w') (o : Obj) : Sts g w (w'.alloc o) := fun P a b c e p => a _ o (h P a b c e p)
theorem Sts.drewN {g : Nat} {w w' : World} (h : Sts g w w') (n : Nat) : Sts g w (w'.drewN n) := fun P a b c e p => b _ n (h P a b c e p)
theorem Sts.drew {g : Nat} {w w' : World} (h : Sts g w w') : Sts g w w'.drew := fun P a b c e p => c _ (h P a b c e p)
theorem Sts.set {g j : Nat} {u : Value} {w w' : World} (h : Sts g w w') : Sts g w (w'.setCell ⟨g, j, none⟩ u) := fun P a b c e p => e _ j u (h P a b c e p)
theorem wS {w W W' : World} {g : Nat} (h : Below w.heap.size w W) (hg : w.heap.size ≤ g) (s : Sts g W W' := by repeat (first | (with_reducible first | exact Sts.refl _ _ | refine Sts.alloc ?_ _ | refine Sts.drewN ?_ _ | refine Sts.drew ?_ | refine Sts.set ?_) | exact Sts.refl _ _)) : Below w.heap.size w W' :=
  s (fun v => Below w.heap.size w v) (fun _ o h => below_alloc h o) (fun _ n h => pw_below_drewN h n) (fun _ h => below_drew1 h) (fun _ _ _ h => below_set h hg) h
theorem cgz {W w1 : World} {row : Option Nat} (hg : W.grownBy w1 row) {a : Addr} {v : Value} (h : W.cell? a = some v) (hne : some a.block ≠ row) : w1.cell? a = some v := Go.Proofs.YtgbnfjhmobeloaaW.PrintWords.cell_grown hg h hne
end Go.Proofs.Ytgbnfjhmobeloaa.G
