import Derived.Test.YtgbnfjhmobeloaaGx0
import Derived.Lib.SmallJoins
import Derived.WalkKit
import Derived.ProofKit
import Derived.OpenShut
import Derived.ChangeOld
import Derived.Deep.Slices
namespace Go.Proofs.Ytgbnfjhmobeloaa.ShD
open Go.Deep Go.ChangeShapes Go.WideShapes Go.ChangeAt Go.RowKit Go.Proofs.Ytgbnfjhmobeloaa.G Go.Proofs.YtgbnfjhmobeloaaW.PrintWords Go.Proofs.YtgbnfjhmobeloaaW.PrintLast Go.Proofs.YtgbnfjhmobeloaaW.PrintMore
set_option linter.unusedVariables false
set_option linter.unusedSimpArgs false
theorem list5 {α : Type} {l : List α} (h : l.length = 5) : ∃ a b c d e, l = [a, b, c, d, e] := by
 match l, h with
 | [a, b, c, d, e], _ => exact ⟨a, b, c, d, e, rfl⟩
theorem list6 {α : Type} {l : List α} (h : l.length = 6) : ∃ a b c d e f, l = [a, b, c, d, e, f] := by
 match l, h with
 | [a, b, c, d, e, f], _ => exact ⟨a, b, c, d, e, f, rfl⟩
theorem array6 {α : Type} {cs : Array α} (h : cs.size = 6) : ∃ a b c d e f, cs = #[a, b, c, d, e, f] := by
 obtain ⟨l⟩ := cs
 obtain ⟨a, b, c, d, e, f, rfl⟩ := list6 h
 exact ⟨a, b, c, d, e, f, rfl⟩
section
variable {H : Type} {enc : TypeId × Value → H} {W : World} {held : Bool}
theorem ints {fuel : Nat} {v : Value} {y : DataW H × List MemPlace} (h : DataW.trod enc Try.prog W 0 (fun _ => true) held fuel 25 [v] = some y) : ∃ A c, ∃ l : List Int, v = .slice A l.length c ∧ l.length ≤ c ∧ Kd.C (Kd.int .i64) W A l.length l := by
 rcases open_ints Try.underlying25 Try.underlying3 (by kernel_rfl) h with ⟨hcs, _⟩ | ⟨x, len, c, zs, hcs, _, hl, hm, hz, _, hcell, hwz⟩
 ·injection hcs with hcs _
  exact ⟨none, 0, [], hcs, Nat.le_refl _, rfl, by simp, fun h => absurd h (by simp)⟩
 ·injection hcs with hcs _
  obtain ⟨l, e, hr, _, hw, hc⟩ := ReadsInt.ofRowC (k := .i64) (w := W) (a := some x) (len := len) (cap := c) (zs := zs) (.inr ⟨x, rfl, hl, hm, by simpa using hz, hcell, hwz⟩)
  exact ⟨some x, c, l, by rw [← e]; exact hcs, hc, Kd.C_of_reads (d := (0 : Int)) (h1 := fun _ => rfl) hr⟩
theorem raws {fuel : Nat} {v : Value} {y : DataW H × List MemPlace} (h : DataW.trod enc Try.prog W 0 (fun _ => true) held fuel 22 [v] = some y) : ∃ A c, ∃ l : List S85, v = .slice A l.length c ∧ l.length ≤ c ∧ Kd.C k85 W A l.length l := by
 rcases open_slice Try.underlying22 h with ⟨hcs, _⟩ | ⟨a, len, cap, m, n, D, Pl, hcs, hb, hl, hm, hmm, hx, hel⟩
 ·injection hcs with hcs _
  exact ⟨none, 0, [], hcs, Nat.le_refl _, rfl, by simp, fun h => absurd h (by simp)⟩
 ·injection hcs with hcs _
  have ce : Try.prog.cellsOf 85 = 5 := by kernel_rfl
  have c3 : Try.prog.cellsOf 3 = 1 := by kernel_rfl
  have c25 : Try.prog.cellsOf 25 = 1 := by kernel_rfl
  have each : ∀ i, i < len → ∃ x : S85, ∃ c, c.length = 5 ∧ k85.K W x c ∧ ∀ j u, c[j]? = some u → W.cell? (a.add (i * 5 + j)) = some u := by
   intro i hi
   obtain ⟨cs', h1, h2⟩ := hel i (by rw [hmm, if_pos rfl]; omega)
   rw [ce] at h1
   obtain ⟨_, hlen, hcell⟩ := World.cells?_some h1
   obtain ⟨xs, k, hk, hxy, _, hxl, hf⟩ := DataW.trod_struct Try.underlying85 h2
   obtain ⟨v0, v1, v2, v3, v4, rfl⟩ := list5 hlen
   obtain ⟨y0, y1, y2, y3, y4, rfl⟩ := list5 hxl
   have g0 : DataW.trod enc Try.prog W 0 (fun _ => true) held k 3 (([v0, v1, v2, v3, v4].drop 0).take (Try.prog.cellsOf 3)) = some y0 := hf 0 _ rfl
   rw [c3] at g0
   have g1 : DataW.trod enc Try.prog W 0 (fun _ => true) held k 3 (([v0, v1, v2, v3, v4].drop 1).take (Try.prog.cellsOf 3)) = some y1 := hf 1 _ rfl
   rw [c3] at g1
   have g2 : DataW.trod enc Try.prog W 0 (fun _ => true) held k 3 (([v0, v1, v2, v3, v4].drop 2).take (Try.prog.cellsOf 3)) = some y2 := hf 2 _ rfl
   rw [c3] at g2
   have g3 : DataW.trod enc Try.prog W 0 (fun _ => true) held k 25 (([v0, v1, v2, v3, v4].drop 3).take (Try.prog.cellsOf 25)) = some y3 := hf 3 _ rfl
   rw [c25] at g3
   have g4 : DataW.trod enc Try.prog W 0 (fun _ => true) held k 25 (([v0, v1, v2, v3, v4].drop 4).take (Try.prog.cellsOf 25)) = some y4 := hf 4 _ rfl
   rw [c25] at g4
   obtain ⟨b0, e0, _, _⟩ := DataW.trod_int Try.underlying3 (show DataW.trod enc Try.prog W 0 (fun _ => true) held k 3 [v0] = some y0 from g0)
   obtain ⟨b1, e1, _, _⟩ := DataW.trod_int Try.underlying3 (show DataW.trod enc Try.prog W 0 (fun _ => true) held k 3 [v1] = some y1 from g1)
   obtain ⟨b2, e2, _, _⟩ := DataW.trod_int Try.underlying3 (show DataW.trod enc Try.prog W 0 (fun _ => true) held k 3 [v2] = some y2 from g2)
   obtain ⟨A3, n3, l3, e3, h3, hC3⟩ := ints (show DataW.trod enc Try.prog W 0 (fun _ => true) held k 25 [v3] = some y3 from g3)
   obtain ⟨A4, n4, l4, e4, h4, hC4⟩ := ints (show DataW.trod enc Try.prog W 0 (fun _ => true) held k 25 [v4] = some y4 from g4)
   injection e0 with e0 _
   injection e1 with e1 _
   injection e2 with e2 _
   subst e0 e1 e2 e3 e4
   refine ⟨⟨b0, b1, b2, l3, l4⟩, _, hlen, k85_mk W ⟨b0, b1, b2, l3, l4⟩ h3 hC3 h4 hC4, fun j u hj => ?_⟩
   have hj' := (List.getElem?_eq_some_iff.1 hj).1
   have := hcell j (by simpa using hj')
   rw [Go.Deep.add_add] at this
   rw [this]
   exact hj
  haveI : Inhabited S85 := ⟨z85⟩
  obtain ⟨f, hf⟩ := choose_lt each
  refine ⟨some a, cap, (List.range len).map f, by rw [List.length_map, List.length_range]; exact hcs, by rw [List.length_map, List.length_range]; exact hl, rfl, ?_, fun _ => ⟨a, rfl, fun j p hj => ?_⟩⟩
  ·rw [List.length_map, List.length_range]
   have : maxLen ≤ 9223372036854775807 := by decide
   omega
  ·obtain ⟨hl', hp⟩ := List.getElem?_eq_some_iff.1 hj
   rw [List.length_map, List.length_range] at hl'
   rw [List.getElem_map, List.getElem_range] at hp
   subst hp
   obtain ⟨c, h1, h2, h3⟩ := hf j hl'
   exact ⟨c, h1, h2, h3⟩
set_option maxRecDepth 100000 in
theorem shape {r : Reach} {b0 : Nat} {v : Value} {d : DataW H} {p : List MemPlace} (hv : Value.okWide Try.prog W r b0 24 v) (h : DataW.Trod enc Try.prog W 0 (fun _ => true) held 24 v d p) :
  ∃ a0 a1 a2 a3 A c, ∃ l : List S85, ∃ b, v = .agg #[.int .i64 a0, .int .i64 a1, .int .i64 a2, .int .i64 a3, .slice A l.length c, .bool b] ∧ l.length ≤ c ∧ Kd.C k85 W A l.length l := by
 obtain ⟨cs, rfl, hsz⟩ := okWide_struct Try.underlying24 hv
 have c24 : Try.prog.cellsOf 24 = 6 := by kernel_rfl
 obtain ⟨v0, v1, v2, v3, v4, v5, rfl⟩ := array6 (hsz.trans c24)
 obtain ⟨fuel, hf⟩ := h
 have c3 : Try.prog.cellsOf 3 = 1 := by kernel_rfl
 have c22 : Try.prog.cellsOf 22 = 1 := by kernel_rfl
 have c4 : Try.prog.cellsOf 4 = 1 := by kernel_rfl
 obtain ⟨xs, k, hk, hxy, _, hxl, hf⟩ := DataW.trod_struct Try.underlying24 hf
 obtain ⟨y0, y1, y2, y3, y4, y5, rfl⟩ := list6 hxl
 have g0 : DataW.trod enc Try.prog W 0 (fun _ => true) held k 3 (([v0, v1, v2, v3, v4, v5].drop 0).take (Try.prog.cellsOf 3)) = some y0 := hf 0 _ rfl
 rw [c3] at g0
 have g1 : DataW.trod enc Try.prog W 0 (fun _ => true) held k 3 (([v0, v1, v2, v3, v4, v5].drop 1).take (Try.prog.cellsOf 3)) = some y1 := hf 1 _ rfl
 rw [c3] at g1
 have g2 : DataW.trod enc Try.prog W 0 (fun _ => true) held k 3 (([v0, v1, v2, v3, v4, v5].drop 2).take (Try.prog.cellsOf 3)) = some y2 := hf 2 _ rfl
 rw [c3] at g2
 have g3 : DataW.trod enc Try.prog W 0 (fun _ => true) held k 3 (([v0, v1, v2, v3, v4, v5].drop 3).take (Try.prog.cellsOf 3)) = some y3 := hf 3 _ rfl
 rw [c3] at g3
 have g4 : DataW.trod enc Try.prog W 0 (fun _ => true) held k 22 (([v0, v1, v2, v3, v4, v5].drop 4).take (Try.prog.cellsOf 22)) = some y4 := hf 4 _ rfl
 rw [c22] at g4
 have g5 : DataW.trod enc Try.prog W 0 (fun _ => true) held k 4 (([v0, v1, v2, v3, v4, v5].drop 5).take (Try.prog.cellsOf 4)) = some y5 := hf 5 _ rfl
 rw [c4] at g5
 obtain ⟨b0, e0, _, _⟩ := DataW.trod_int Try.underlying3 (show DataW.trod enc Try.prog W 0 (fun _ => true) held k 3 [v0] = some y0 from g0)
 obtain ⟨b1, e1, _, _⟩ := DataW.trod_int Try.underlying3 (show DataW.trod enc Try.prog W 0 (fun _ => true) held k 3 [v1] = some y1 from g1)
 obtain ⟨b2, e2, _, _⟩ := DataW.trod_int Try.underlying3 (show DataW.trod enc Try.prog W 0 (fun _ => true) held k 3 [v2] = some y2 from g2)
 obtain ⟨b3, e3, _, _⟩ := DataW.trod_int Try.underlying3 (show DataW.trod enc Try.prog W 0 (fun _ => true) held k 3 [v3] = some y3 from g3)
 obtain ⟨A, c, l, e4, h4, hC⟩ := raws (show DataW.trod enc Try.prog W 0 (fun _ => true) held k 22 [v4] = some y4 from g4)
 obtain ⟨b, e5, _⟩ := DataW.trod_bool Try.underlying4 (show DataW.trod enc Try.prog W 0 (fun _ => true) held k 4 [v5] = some y5 from g5)
 injection e0 with e0 _
 injection e1 with e1 _
 injection e2 with e2 _
 injection e3 with e3 _
 injection e5 with e5 _
 subst e0 e1 e2 e3 e4 e5
 exact ⟨_, _, _, _, _, _, _, _, rfl, h4, hC⟩
end
end Go.Proofs.Ytgbnfjhmobeloaa.ShD
