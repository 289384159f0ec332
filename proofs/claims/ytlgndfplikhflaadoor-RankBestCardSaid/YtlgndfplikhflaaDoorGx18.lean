import Derived.Test.YtlgndfplikhflaaDoorGx0
import Derived.Test.YtlgndfplikhflaaDoorGx15
namespace Go.Proofs.YtlgndfplikhflaaDoor.G
open Go.RowKit Go.Proofs.YtlgndfplikhflaaDoorW.PrintWords Go.Proofs.YtlgndfplikhflaaDoorW.PrintLast Go.Proofs.YtlgndfplikhflaaDoorW.PrintMore Go.Proofs.YtlgndfplikhflaaDoorW.VWords Go.Proofs.YtlgndfplikhflaaDoorW.Tab
attribute [local go_sem] max2_int min2_int max_two min_two max_three min_three max_four min_four
set_option linter.unusedVariables false
set_option linter.unusedSimpArgs false
abbrev N29 : Bool := false
abbrev Y29 : Bool := true
theorem pq29 : (∀ (t : Array Value) d (n : Nat) (v : Value), Act.put ⟨t, d⟩ (some n) v = ⟨t.setIfInBounds n v, d⟩) ∧ (∀ (l : List Value) (n : Nat) (v : Value), l.toArray.setIfInBounds n v = (l.set n v).toArray) ∧ (∀ (x v : Value) (l : List Value), (x :: l).set 0 v = v :: l) ∧ (∀ (x v : Value) (l : List Value) (n : Nat), (x :: l).set (n + 1) v = x :: l.set n v) ∧ (∀ z : Int, IntKind.i64.wrap z = wrap64 z) ∧ (∀ z : Int, IntKind.i32.wrap z = wrap32 z) := ⟨fun _ _ _ _ => rfl, fun _ _ _ => List.setIfInBounds_toArray .., fun _ _ _ => List.set_cons_zero .., fun _ _ _ _ => List.set_cons_succ .., i64_w, i32_w⟩
mutual
def interlocutorref10_Add.j1 : Nat → List (S36) → Int → Int → List Int → Int → Option ((List (S36)))
  | 0, _, _, _, _, _ => none
  | k + 1, x0, x5, x276000, x276001, x276002 => if x5 < (x0.length : Int) then (if 0 ≤ x5 then ((interlocutorref10_Cmp.f k ((rd_T36 x0 x5).f0.f0) ((rd_T36 x0 x5).f0.f1) x276000 x276001).bind fun t279 => (interlocutorref10_Add.j2 k x0 x5 (t279 == 0) x276000 x276001 x276002)) else (none)) else (interlocutorref10_Add.j2 k x0 x5 false x276000 x276001 x276002)
def interlocutorref10_Add.j2 : Nat → List (S36) → Int → Bool → Int → List Int → Int → Option ((List (S36)))
  | 0, _, _, _, _, _, _ => none
  | k + 1, x0, x5, x38, x276000, x276001, x276002 => if x38 = true then (if 0 ≤ x5 then (if x5 < (x0.length : Int) then (if x276002 ≥ ((rd_T36 x0 x5).f1) then (some x0) else ((some (([] : List (S36)) : List (S36))).bind fun y281 => (if y281.length + x0.length < 3518437208883 then ((some (y281 ++ x0 : List (S36))).bind fun y284 => (if x5 < (y284.length : Int) then (some (y284.set (x5 : Int).toNat (⟨(⟨(rd_T36 y284 x5).f0.f0, (rd_T36 y284 x5).f0.f1⟩ : S24), x276002⟩ : S36))) else (none))) else (none)))) else (none)) else (none)) else ((some (([] : List (S36)) : List (S36))).bind fun y288 => (if 0 ≤ x5 then (if x5 ≤ (x0.length : Int) then ((some (x0.take (x5 : Int).toNat : List (S36))).bind fun y291 => (if y288.length + y291.length < 3518437208883 then ((some (y288 ++ y291 : List (S36))).bind fun y296 => ((some (([(⟨(⟨x276000, x276001⟩ : S24), x276002⟩ : S36)] : List (S36)) : List (S36))).bind fun y299 => (if y296.length + y299.length < 3518437208883 then ((some (y296 ++ y299 : List (S36))).bind fun y302 => ((some (x0.drop (x5 : Int).toNat : List (S36))).bind fun y305 => (if y302.length + y305.length < 3518437208883 then (some (y302 ++ y305)) else (none)))) else (none)))) else (none))) else (none)) else (none)))
def interlocutorref10_Add.l0 : Nat → List (S36) → Int → Int → List Int → Int → Option ((List (S36)))
  | 0, _, _, _, _, _ => none
  | k + 1, x0, x5, x276000, x276001, x276002 => if x5 < (x0.length : Int) then (if 0 ≤ x5 then ((interlocutorref10_Cmp.f k ((rd_T36 x0 x5).f0.f0) ((rd_T36 x0 x5).f0.f1) x276000 x276001).bind fun t277 => (if t277 < 0 then (interlocutorref10_Add.l0 k x0 (wrap64 (x5 + 1)) x276000 x276001 x276002) else (interlocutorref10_Add.j1 k x0 x5 x276000 x276001 x276002))) else (none)) else (interlocutorref10_Add.j1 k x0 x5 x276000 x276001 x276002)
end
def interlocutorref10_Add.f (k : Nat) (l0 : List (S36)) (a1_0 : Int) (l1_1 : List Int) (a1_2 : Int) : Option ((List (S36))) := interlocutorref10_Add.l0 k l0 0 a1_0 l1_1 a1_2
theorem interlocutorref10_Add.mono_l : ∀ k, (∀ y0 y1 y2 y3 y4, LeO (interlocutorref10_Add.j1 k y0 y1 y2 y3 y4) (interlocutorref10_Add.j1 (k + 1) y0 y1 y2 y3 y4)) ∧ (∀ y0 y1 y2 y3 y4 y5, LeO (interlocutorref10_Add.j2 k y0 y1 y2 y3 y4 y5) (interlocutorref10_Add.j2 (k + 1) y0 y1 y2 y3 y4 y5)) ∧ (∀ y0 y1 y2 y3 y4, LeO (interlocutorref10_Add.l0 k y0 y1 y2 y3 y4) (interlocutorref10_Add.l0 (k + 1) y0 y1 y2 y3 y4))
  | 0 => ⟨fun _ _ _ _ _ r h => by simp [interlocutorref10_Add.j1] at h, fun _ _ _ _ _ _ r h => by simp [interlocutorref10_Add.j2] at h, fun _ _ _ _ _ r h => by simp [interlocutorref10_Add.l0] at h⟩
  | k + 1 => by
    obtain ⟨ih0, ih1, ih2⟩ := interlocutorref10_Add.mono_l k
    refine ⟨?_, ?_, ?_⟩
    · intro y0 y1 y2 y3 y4
      unfold interlocutorref10_Add.j1
      repeat' first
      | (with_reducible exact ih0 _ _ _ _ _)
      | (with_reducible exact ih1 _ _ _ _ _ _)
      | (with_reducible exact ih2 _ _ _ _ _)
      | (with_reducible exact interlocutorref10_Cmp.mono _ _ _ _ _)
      | (with_reducible exact LeO.refl _)
      | (with_reducible exact LeO.none _)
      | (with_reducible refine LeO.ite ?_ ?_)
      | (with_reducible refine LeO.bind ?_ (fun _ => ?_))
      | exact ih0 _ _ _ _ _
      | exact ih1 _ _ _ _ _ _
      | exact ih2 _ _ _ _ _
      | exact interlocutorref10_Cmp.mono _ _ _ _ _
      | exact LeO.none _
      | refine LeO.ite ?_ ?_
      | refine LeO.bind ?_ (fun _ => ?_)
    · intro y0 y1 y2 y3 y4 y5
      unfold interlocutorref10_Add.j2
      repeat' first
      | (with_reducible exact ih0 _ _ _ _ _)
      | (with_reducible exact ih1 _ _ _ _ _ _)
      | (with_reducible exact ih2 _ _ _ _ _)
      | (with_reducible exact interlocutorref10_Cmp.mono _ _ _ _ _)
      | (with_reducible exact LeO.refl _)
      | (with_reducible exact LeO.none _)
      | (with_reducible refine LeO.ite ?_ ?_)
      | (with_reducible refine LeO.bind ?_ (fun _ => ?_))
      | exact ih0 _ _ _ _ _
      | exact ih1 _ _ _ _ _ _
      | exact ih2 _ _ _ _ _
      | exact interlocutorref10_Cmp.mono _ _ _ _ _
      | exact LeO.none _
      | refine LeO.ite ?_ ?_
      | refine LeO.bind ?_ (fun _ => ?_)
    · intro y0 y1 y2 y3 y4
      unfold interlocutorref10_Add.l0
      repeat' first
      | (with_reducible exact ih0 _ _ _ _ _)
      | (with_reducible exact ih1 _ _ _ _ _ _)
      | (with_reducible exact ih2 _ _ _ _ _)
      | (with_reducible exact interlocutorref10_Cmp.mono _ _ _ _ _)
      | (with_reducible exact LeO.refl _)
      | (with_reducible exact LeO.none _)
      | (with_reducible refine LeO.ite ?_ ?_)
      | (with_reducible refine LeO.bind ?_ (fun _ => ?_))
      | exact ih0 _ _ _ _ _
      | exact ih1 _ _ _ _ _ _
      | exact ih2 _ _ _ _ _
      | exact interlocutorref10_Cmp.mono _ _ _ _ _
      | exact LeO.none _
      | refine LeO.ite ?_ ?_
      | refine LeO.bind ?_ (fun _ => ?_)
theorem interlocutorref10_Add.mono : ∀ a0 a1 a2 a3 k, LeO (interlocutorref10_Add.f k a0 a1 a2 a3) (interlocutorref10_Add.f (k + 1) a0 a1 a2 a3) := by
  intro a0 a1 a2 a3 k
  obtain ⟨ih0, ih1, ih2⟩ := interlocutorref10_Add.mono_l k
  unfold interlocutorref10_Add.f
  repeat' first
      | (with_reducible exact ih0 _ _ _ _ _)
      | (with_reducible exact ih1 _ _ _ _ _ _)
      | (with_reducible exact ih2 _ _ _ _ _)
      | (with_reducible exact interlocutorref10_Cmp.mono _ _ _ _ _)
      | (with_reducible exact LeO.refl _)
      | (with_reducible exact LeO.none _)
      | (with_reducible refine LeO.ite ?_ ?_)
      | (with_reducible refine LeO.bind ?_ (fun _ => ?_))
      | exact ih0 _ _ _ _ _
      | exact ih1 _ _ _ _ _ _
      | exact ih2 _ _ _ _ _
      | exact interlocutorref10_Cmp.mono _ _ _ _ _
      | exact LeO.none _
      | refine LeO.ite ?_ ?_
      | refine LeO.bind ?_ (fun _ => ?_)
def interlocutorref10_Add.T2 : Bool × List (List Nat × List Nat) := (true, [([], []), ([], []), ([1], [1]), ([0, 2], [0, 2]), ([3], [3]), ([4], [4]), ([4], [4]), ([5, 6, 4], [4, 5, 6]), ([7, 4], [4, 7]), ([8, 4], [4, 8]), ([4], [4]), ([10, 4], [4, 10]), ([9, 11, 4, 4], [4, 9, 11]), ([12, 4], [4, 12]), ([4, 13], [4, 13])])
def interlocutorref10_Add.B2 : List Nat := [0, 0, 2, 7, 15, 31, 31, 127, 255, 511, 31, 1055, 4095, 8191, 16383]
theorem interlocutorref10_Add.tab2 : rtab .any (opsOf Tryd.f29 2) = interlocutorref10_Add.T2 := by kernel_rfl
theorem interlocutorref10_Add.bits2 : waitsOk interlocutorref10_Add.T2.2 interlocutorref10_Add.B2 = true := by kernel_rfl
def interlocutorref10_Add.T4 : Bool × List (List Nat × List Nat) := (true, [([], []), ([], []), ([1], [1]), ([0, 2], [0, 2]), ([3], [3]), ([4], [4]), ([4], [4]), ([5, 6, 4], [4, 5, 6]), ([7, 4], [4, 7]), ([8, 4], [4, 8]), ([4], [4]), ([10, 4], [4, 10]), ([9, 11, 4, 4], [4, 9, 11]), ([12, 4], [4, 12]), ([4, 13], [4, 13])])
def interlocutorref10_Add.B4 : List Nat := [0, 0, 2, 7, 15, 31, 31, 127, 255, 511, 31, 1055, 4095, 8191, 16383]
theorem interlocutorref10_Add.tab4 : rtab .any (opsOf Tryd.f29 4) = interlocutorref10_Add.T4 := by kernel_rfl
theorem interlocutorref10_Add.bits4 : waitsOk interlocutorref10_Add.T4.2 interlocutorref10_Add.B4 = true := by kernel_rfl
def interlocutorref10_Add.T5 : Bool × List (List Nat × List Nat) := (true, [([], []), ([0], [0]), ([], []), ([], []), ([2, 3], [2, 3]), ([4], [4]), ([5], [5]), ([1, 6], [1, 6])])
def interlocutorref10_Add.B5 : List Nat := [0, 1, 0, 0, 12, 28, 60, 127]
theorem interlocutorref10_Add.tab5 : rtab .any (opsOf Tryd.f29 5) = interlocutorref10_Add.T5 := by kernel_rfl
theorem interlocutorref10_Add.bits5 : waitsOk interlocutorref10_Add.T5.2 interlocutorref10_Add.B5 = true := by kernel_rfl
def interlocutorref10_Add.T10 : Bool × List (List Nat × List Nat) := (true, [([], []), ([], []), ([], []), ([1, 2], [1, 2]), ([0, 3], [0, 3]), ([], []), ([5], [5]), ([4, 6, 4], [4, 6]), ([], []), ([], []), ([8, 9], [8, 9]), ([7, 10, 7], [7, 10]), ([11, 11, 0, 1, 2, 3, 4, 5, 6, 7, 8, 9, 10, 11], [11])])
def interlocutorref10_Add.B10 : List Nat := [0, 0, 0, 6, 15, 0, 32, 127, 0, 0, 768, 2047, 4095]
theorem interlocutorref10_Add.tab10 : rtab .any (opsOf Tryd.f29 10) = interlocutorref10_Add.T10 := by kernel_rfl
theorem interlocutorref10_Add.bits10 : waitsOk interlocutorref10_Add.T10.2 interlocutorref10_Add.B10 = true := by kernel_rfl
set_option maxHeartbeats 8000000 in
set_option maxRecDepth 100000 in
theorem interlocutorref10_Add.calls (k : Nat) (P0_ : Nat → Prop) (A0 : Option Addr) (c0 : Nat) (l0 : List (S36)) (a1_0 : Int) (P1_1_ : Nat → Prop) (A1_1 : Option Addr) (c1_1 : Nat) (l1_1 : List Int) (a1_2 : Int) (r : List (S36)) (w : World) (hs0 : Kd.V k36 36 w w.heap.size (fun k_ => P0_ k_) (.slice A0 l0.length c0) l0) (hs1_1 : Kd.V (Kd.int .i64) 3 w w.heap.size (fun k_ => P1_1_ k_) (.slice A1_1 l1_1.length c1_1) l1_1) (h : interlocutorref10_Add.f k l0 a1_0 l1_1 a1_2 = some r) :
    Calls Tryd.prog 29 #[.slice A0 l0.length c0, .agg #[.int .i64 a1_0, .slice A1_1 l1_1.length c1_1, .int .i64 a1_2]] w fun e w' => ∃ v0_ : Value, e = .returned (v0_) ∧ Kd.V k36 36 w' w.heap.size (fun k_ => ((P0_ k_ ∨ P1_1_ k_) ∨ w.heap.size ≤ k_)) v0_ r ∧ Below w.heap.size w w' := by
  have hu36 := Tryd.underlying36
  have hu24 := Tryd.underlying24
  have HO0 := Aside0.mk (show Kd.V k36 36 w w.heap.size (fun k_ => ((P0_ k_ ∨ P1_1_ k_) ∨ w.heap.size ≤ k_)) (.slice A0 l0.length c0) l0 from Kd.V_mono hs0 (fun k_ hk => .inl (.inl hk)))
  have HO1_1 := Aside0.mk (show Kd.V (Kd.int .i64) 3 w w.heap.size (fun k_ => ((P0_ k_ ∨ P1_1_ k_) ∨ w.heap.size ≤ k_)) (.slice A1_1 l1_1.length c1_1) l1_1 from Kd.V_mono hs1_1 (fun k_ hk => .inl (.inr hk)))
  have HB := Aside0.mk (Below.refl w.heap.size w)
  have H : (interlocutorref10_Add.l0 k l0 0 a1_0 l1_1 a1_2) = some r := h
  clear h
  have HC3 := Aside0.mk H
  clear H
  go_enter Tryd.func29, Tryd.ntmps29
  go_upto_block 0 with (first | ((with_reducible refine gate_dst (N := 3) rfl ?_); refine box_event ?hg (N := 3) ?hd (cs := #[.int .i64 a1_0, .slice A1_1 l1_1.length c1_1, .int .i64 a1_2]) (t := 36) ?hr ?_; (case hd => rfl); (case hg => rfl); (case hr => first | (go_simp; done) | (go_simp; rfl)); intro gb275 hg w4 hbox hb; have n0_ := Aside0.mk (Kd.V_below (Kd.V_elderB (by exact vU HO0.out) gb275 (Nat.le_of_eq hg.symm)) hb); have n1_ := Aside0.mk (Kd.V_below (Kd.V_elderB (by exact vU HO1_1.out) gb275 (Nat.le_of_eq hg.symm)) hb); have n2_ := Aside0.mk (below_step (by exact wU HB.out) hb); have n3_ := Aside0.mk (hbox); have n4_ := Aside0.mk ((by rw [hg]; exact (below_size (by exact wU HB.out)) : w.heap.size ≤ gb275)); have n5_ := Aside0.mk ((by rw [hg]; exact (below_size (by exact wU HB.out)) : w.heap.size ≤ gb275)); clear HO0; clear HO1_1; clear HB; have HO0 := n0_; have HO1_1 := n1_; have HB := n2_; have BK275 := n3_; have GW275 := n4_; have GE275 := n5_; clear n0_ n1_ n2_ n3_ n4_ n5_; clear hb hbox hg))
  (try simp only [Act.put, List.setIfInBounds_toArray, List.set_cons_zero, List.set_cons_succ])
  go_cut [5] (fun v5 wc => ∃ (kq : Nat) (x5_2 : Int), v5 = .int .i64 x5_2 ∧ Aside0 (interlocutorref10_Add.j1 kq l0 x5_2 a1_0 l1_1 a1_2 = some r) ∧ Aside0 (kq ≤ k) ∧ Aside0 (Kd.V k36 36 wc w.heap.size (fun k_ => ((P0_ k_ ∨ P1_1_ k_) ∨ w.heap.size ≤ k_) ∧ k_ ≠ gb275) (.slice A0 l0.length c0) l0) ∧ Aside0 (Kd.V (Kd.int .i64) 3 wc w.heap.size (fun k_ => ((P0_ k_ ∨ P1_1_ k_) ∨ w.heap.size ≤ k_) ∧ k_ ≠ gb275) (.slice A1_1 l1_1.length c1_1) l1_1) ∧ Aside0 (wc.heap[gb275]? = some (.cells #[.int .i64 a1_0, (.slice A1_1 l1_1.length c1_1), .int .i64 a1_2] 36 (0, 0))) ∧ Aside0 (Below w.heap.size w wc))
  case first =>
   have H := HC3.out
   clear HC3
   have H' := Aside0.mk H
   clear H
   go_wp2
   go_loopg [5] k (fun kq v5 w' => ∃ (x5_1 : Int), v5 = .int .i64 x5_1 ∧ Aside0 (interlocutorref10_Add.l0 kq l0 x5_1 a1_0 l1_1 a1_2 = some r) ∧ Aside0 (kq ≤ k) ∧ Aside0 (Kd.V k36 36 w' w.heap.size (fun k_ => ((P0_ k_ ∨ P1_1_ k_) ∨ w.heap.size ≤ k_) ∧ k_ ≠ gb275) (.slice A0 l0.length c0) l0) ∧ Aside0 (Kd.V (Kd.int .i64) 3 w' w.heap.size (fun k_ => ((P0_ k_ ∨ P1_1_ k_) ∨ w.heap.size ≤ k_) ∧ k_ ≠ gb275) (.slice A1_1 l1_1.length c1_1) l1_1) ∧ Aside0 (w'.heap[gb275]? = some (.cells #[.int .i64 a1_0, (.slice A1_1 l1_1.length c1_1), .int .i64 a1_2] 36 (0, 0))) ∧ Aside0 (Below w.heap.size w w'))
   case atStart => exact ⟨(0), (by first | rfl | (simp; done) | (simp [*]; done)), H', ⟨Nat.le_refl _⟩, ⟨by exact vU HO0.out⟩, ⟨by exact vU HO1_1.out⟩, ⟨by (with_reducible repeat (first | refine blk_drewN ?_ _ | refine blk_drew ?_ | refine blk_alloc ?_ _)); exact BK275.out⟩, ⟨by exact wS HB.out GE275.out⟩⟩
   case round =>
    clear H'
    try clear c1
    try clear c2
    try clear p2
    obtain ⟨x5_1, rfl, HA, HK1, HO_0, HO_276001, BK275, HB⟩ := hrel
    cases gk with
    | zero => exact absurd HA.out (by simp [interlocutorref10_Add.l0])
    | succ k1 =>
     have H := HA.out
     clear HA
     simp only [interlocutorref10_Add.l0] at H
     by_cases c5 : x5_1 < (l0.length : Int)
     rotate_left
     · rw [if_neg c5] at H
       have c5b0 : decide (x5_1 < (l0.length : Int)) = false := decide_eq_false c5
       clear c5
       (first | rw [c5b0] | (simp only [i64_w, i32_w]; rw [c5b0]) | skip)
       have H' := Aside0.mk H
       clear H
       try go_wp2
       have n0_ := Aside0.mk (Kd.V_drew HO_0.out)
       have n1_ := Aside0.mk (Kd.V_drew HO_276001.out)
       have n2_ := Aside0.mk (blk_drew BK275.out)
       have n3_ := Aside0.mk (below_drew1 HB.out)
       clear HO_0 HO_276001 BK275 HB
       have HO_0 := n0_
       have HO_276001 := n1_
       have BK275 := n2_
       have HB := n3_
       clear n0_ n1_ n2_ n3_
       refine start_ (n := 15) (S := fun w' => True) (ds := []) #[N29,N29,N29,N29,N29,N29,N29,N29,N29,N29,N29,N29,N29,N29,N29] (by kernel_rfl) rfl rfl trivial (fun hHeld => ?_); refine with_tabW interlocutorref10_Add.tab2 interlocutorref10_Add.bits2 (fun HT_ HW_ => ?_)
       generalize wr.drew = w13 at HO_0 HO_276001 BK275 HB hHeld ⊢
       refine pure_ (i := 0) (N := some 7) (v := ?_) (a' := ?_) #[Y29,N29,N29,N29,N29,N29,N29,N29,N29,N29,N29,N29,N29,N29,N29] rfl rfl (any_of HT_.out (by kernel_rfl)) (fun _ _ _ h => h) (Or.inl ⟨by rfl, ?_⟩) ?_ ?_; rotate_left; (intro w'; go_simp; with_reducible rfl); rotate_left; (simp only [pq29]; rfl)
       refine pure_ (i := 1) (N := some 8) (v := ?_) (a' := ?_) #[Y29,Y29,N29,N29,N29,N29,N29,N29,N29,N29,N29,N29,N29,N29,N29] rfl rfl (any_of HT_.out (by kernel_rfl)) (fun _ _ _ h => h) (Or.inl ⟨by rfl, ?_⟩) ?_ ?_; rotate_left; (intro w'; go_simp; with_reducible rfl); rotate_left; (simp only [pq29]; rfl)
       refine pure_ (i := 2) (N := some 9) (v := ?_) (a' := ?_) #[Y29,Y29,Y29,N29,N29,N29,N29,N29,N29,N29,N29,N29,N29,N29,N29] rfl rfl (any_of HT_.out (by kernel_rfl)) (fun _ _ _ h => h) (Or.inl ⟨by rfl, ?_⟩) ?_ ?_; rotate_left; (intro w'; go_simp; with_reducible rfl); rotate_left; (simp only [pq29]; rfl)
       refine pure_ (i := 3) (N := some 10) (v := ?_) (a' := ?_) #[Y29,Y29,Y29,Y29,N29,N29,N29,N29,N29,N29,N29,N29,N29,N29,N29] rfl rfl (any_of HT_.out (by kernel_rfl)) (fun _ _ _ h => h) (Or.inl ⟨by rfl, ?_⟩) ?_ ?_; rotate_left; (intro w'; go_simp; with_reducible rfl); rotate_left; (simp only [pq29]; rfl)
       refine pure_ (i := 4) (N := some 11) (v := ?_) (a' := ?_) #[Y29,Y29,Y29,Y29,Y29,N29,N29,N29,N29,N29,N29,N29,N29,N29,N29] rfl rfl (any_of HT_.out (by kernel_rfl)) (fun _ _ _ h => h) (Or.inl ⟨by rfl, ?_⟩) ?_ ?_; rotate_left; (intro w'; go_simp; with_reducible rfl); rotate_left; (simp only [pq29]; rfl)
       refine pure_ (i := 5) (N := some 12) (v := undef) (a' := ?_) #[Y29,Y29,Y29,Y29,Y29,Y29,N29,N29,N29,N29,N29,N29,N29,N29,N29] rfl rfl (any_of HT_.out (by kernel_rfl)) (fun _ _ _ h => h) (Or.inr ⟨by rfl, rfl⟩) ?_ ?_
       rotate_left
       · simp only [pq29]
         rfl
       refine pure_ (i := 6) (N := some 13) (v := undef) (a' := ?_) #[Y29,Y29,Y29,Y29,Y29,Y29,Y29,N29,N29,N29,N29,N29,N29,N29,N29] rfl rfl (any_of HT_.out (by kernel_rfl)) (fun _ _ _ h => h) (Or.inr ⟨by rfl, rfl⟩) ?_ ?_
       rotate_left
       · simp only [pq29]
         rfl
       refine pure_ (i := 7) (N := some 14) (v := undef) (a' := ?_) #[Y29,Y29,Y29,Y29,Y29,Y29,Y29,Y29,N29,N29,N29,N29,N29,N29,N29] rfl rfl (any_of HT_.out (by kernel_rfl)) (fun _ _ _ h => h) (Or.inr ⟨by rfl, rfl⟩) ?_ ?_
       rotate_left
       · simp only [pq29]
         rfl
       refine pure_ (i := 8) (N := some 15) (v := undef) (a' := ?_) #[Y29,Y29,Y29,Y29,Y29,Y29,Y29,Y29,Y29,N29,N29,N29,N29,N29,N29] rfl rfl (any_of HT_.out (by kernel_rfl)) (fun _ _ _ h => h) (Or.inr ⟨by rfl, rfl⟩) ?_ ?_
       rotate_left
       · simp only [pq29]
         rfl
       refine pure_ (i := 9) (N := some 16) (v := undef) (a' := ?_) #[Y29,Y29,Y29,Y29,Y29,Y29,Y29,Y29,Y29,Y29,N29,N29,N29,N29,N29] rfl rfl (any_of HT_.out (by kernel_rfl)) (fun _ _ _ h => h) (Or.inr ⟨by rfl, rfl⟩) ?_ ?_
       rotate_left
       · simp only [pq29]
         rfl
       refine pure_ (i := 10) (N := some 17) (v := undef) (a' := ?_) #[Y29,Y29,Y29,Y29,Y29,Y29,Y29,Y29,Y29,Y29,Y29,N29,N29,N29,N29] rfl rfl (any_of HT_.out (by kernel_rfl)) (fun _ _ _ h => h) (Or.inr ⟨by rfl, rfl⟩) ?_ ?_
       rotate_left
       · simp only [pq29]
         rfl
       refine pure_ (i := 11) (N := some 18) (v := undef) (a' := ?_) #[Y29,Y29,Y29,Y29,Y29,Y29,Y29,Y29,Y29,Y29,Y29,Y29,N29,N29,N29] rfl rfl (any_of HT_.out (by kernel_rfl)) (fun _ _ _ h => h) (Or.inr ⟨by rfl, rfl⟩) ?_ ?_
       rotate_left
       · simp only [pq29]
         rfl
       refine pure_ (i := 12) (N := some 19) (v := undef) (a' := ?_) #[Y29,Y29,Y29,Y29,Y29,Y29,Y29,Y29,Y29,Y29,Y29,Y29,Y29,N29,N29] rfl rfl (any_of HT_.out (by kernel_rfl)) (fun _ _ _ h => h) (Or.inr ⟨by rfl, rfl⟩) ?_ ?_
       rotate_left
       · simp only [pq29]
         rfl
       refine pure_ (i := 13) (N := some 20) (v := undef) (a' := ?_) #[Y29,Y29,Y29,Y29,Y29,Y29,Y29,Y29,Y29,Y29,Y29,Y29,Y29,Y29,N29] rfl rfl (any_of HT_.out (by kernel_rfl)) (fun _ _ _ h => h) (Or.inr ⟨by rfl, rfl⟩) ?_ ?_
       rotate_left
       · simp only [pq29]
         rfl
       refine pure_ (i := 14) (N := some 21) (v := ?_) (a' := ?_) #[Y29,Y29,Y29,Y29,Y29,Y29,Y29,Y29,Y29,Y29,Y29,Y29,Y29,Y29,Y29] rfl rfl (any_of HT_.out (by kernel_rfl)) (fun _ _ _ h => h) (Or.inl ⟨by rfl, ?_⟩) ?_ ?_; rotate_left; (intro w'; go_simp; with_reducible rfl); rotate_left; (simp only [pq29]; rfl)
       refine done_ (done_of HT_.out (by kernel_rfl)) ?_
       try go_wp2
       go_meet
       case rel => exact ⟨_, (x5_1), (by first | rfl | (simp; done) | (simp [*]; done)), H', ⟨by have := HK1.out; first | omega | exact Nat.le_refl _⟩, ⟨by exact vU HO_0.out⟩, ⟨by exact vU HO_276001.out⟩, ⟨by (with_reducible repeat (first | refine blk_drewN ?_ _ | refine blk_drew ?_ | refine blk_alloc ?_ _)); exact BK275.out⟩, ⟨by exact wS HB.out GE275.out⟩⟩
     rw [if_pos c5] at H
     have c5b0 : decide (x5_1 < (l0.length : Int)) = true := decide_eq_true c5
     clear c5
     (first | rw [c5b0] | (simp only [i64_w, i32_w]; rw [c5b0]) | skip)
     by_cases c6 : 0 ≤ x5_1
     rotate_left
     · rw [if_neg c6] at H
       exact absurd H (by simp)
     rw [if_pos c6] at H
     have c6b0 : decide (0 ≤ x5_1) = true := decide_eq_true c6
     clear c6
     replace H := Option.bind_eq_some_iff.mp H
     obtain ⟨t277, A70, H⟩ := H
     replace H : (if t277 < 0 then (interlocutorref10_Add.l0 k1 l0 (wrap64 (x5_1 + 1)) a1_0 l1_1 a1_2) else (interlocutorref10_Add.j1 k1 l0 x5_1 a1_0 l1_1 a1_2)) = some r := H
     have A7 := Aside0.mk A70
     clear A70
     by_cases c8 : t277 < 0
     rotate_left
     · rw [if_neg c8] at H
       have c8b0 : decide (t277 < 0) = false := decide_eq_false c8
       have c8b7 : ¬ t277 < 0 := of_decide_eq_false c8b0
       have c8b8 : 0 ≤ t277 := by omega
       clear c8
       have H' := Aside0.mk H
       clear H
       try go_wp2
       have n0_ := Aside0.mk (Kd.V_drew HO_0.out)
       have n1_ := Aside0.mk (Kd.V_drew HO_276001.out)
       have n2_ := Aside0.mk (blk_drew BK275.out)
       have n3_ := Aside0.mk (below_drew1 HB.out)
       clear HO_0 HO_276001 BK275 HB
       have HO_0 := n0_
       have HO_276001 := n1_
       have BK275 := n2_
       have HB := n3_
       clear n0_ n1_ n2_ n3_
       have p276 : 0 ≤ (x5_1 : Int) := of_decide_eq_true (by first | (with_reducible assumption) | assumption)
       have q276 : x5_1 < (l0.length : Int) := of_decide_eq_true (by first | (with_reducible assumption) | assumption)
       obtain ⟨ad276, A276_1, c276_1, e276, hx276_0, hx276_1, hx276_2, hl276_1, hi276_1⟩ := at_T36 (Kd.V_reads' HO_0.out).2.2 x5_1 p276 q276
       cases e276
       obtain ⟨ce276, hce276, hMe276, hcc276⟩ := Kd.V_get HO_0.out z36 x5_1 p276 (by first | exact q276 | exact of_decide_eq_true (by first | (with_reducible assumption) | assumption) | (have e_ := (Kd.V_reads' HO_0.out).1; omega))
       obtain ⟨ua276_1, uc276_1, rfl, ul276_1, ge276_1⟩ := k36_openF hMe276
       have hv276_1 := hcc276 1 _ rfl
       rw [add_field _ _ 1 (by omega)] at hv276_1
       replace hv276_1 := Option.some.inj (hv276_1.symm.trans hx276_1)
       injection hv276_1 with hva_ hvn_ hvc_
       rw [hva_] at ge276_1
       rw [hvc_] at ul276_1
       have HL276_1 := Aside0.mk (show Kd.V (Kd.int .i64) 3 _ w.heap.size _ _ ((rd_T36 l0 x5_1).f0.f1) from Kd.V_mk ul276_1 ge276_1)
       clear hva_ hvn_ hvc_ ge276_1 ul276_1 hcc276 hce276
       have HR276_1 := Aside0.mk hi276_1
       have HC276_1 := Aside0.mk hl276_1
       clear hi276_1 hl276_1
       replace p276 := eq_true p276
       replace q276 := eq_true q276
       refine start_ (n := 15) (S := fun w' => w'.cell? ⟨gb275, 0, none⟩ = some (.int .i64 a1_0) ∧ w'.cell? ⟨gb275, 1, none⟩ = some (.slice A1_1 l1_1.length c1_1) ∧ w'.cell? ⟨gb275, 2, none⟩ = some (.int .i64 a1_2) ∧ w'.cell? (ad276.add ((x5_1).toNat * 3)) = some (.int .i64 ((rd_T36 l0 x5_1).f0.f0)) ∧ w'.cell? ⟨(ad276.add ((x5_1).toNat * 3)).block, (ad276.add ((x5_1).toNat * 3)).off + 1, none⟩ = some (.slice A276_1 ((rd_T36 l0 x5_1).f0.f1).length c276_1) ∧ w'.cell? ⟨(ad276.add ((x5_1).toNat * 3)).block, (ad276.add ((x5_1).toNat * 3)).off + 2, none⟩ = some (.int .i64 ((rd_T36 l0 x5_1).f1))) (ds := []) #[N29,N29,N29,N29,N29,N29,N29,N29,N29,N29,N29,N29,N29,N29,N29] (by kernel_rfl) rfl rfl ⟨(blk_cell BK275.out 0).trans rfl, (blk_cell BK275.out 1).trans rfl, (blk_cell BK275.out 2).trans rfl, hx276_0, hx276_1, hx276_2⟩ (fun hHeld => ?_); refine with_tabW interlocutorref10_Add.tab2 interlocutorref10_Add.bits2 (fun HT_ HW_ => ?_)
       generalize wr.drew = w11 at HO_0 HO_276001 BK275 HB HL276_1 HR276_1 hx276_0 hx276_1 hx276_2 hHeld ⊢
       refine pure_ (i := 0) (N := some 7) (v := ?_) (a' := ?_) #[Y29,N29,N29,N29,N29,N29,N29,N29,N29,N29,N29,N29,N29,N29,N29] rfl rfl (any_of HT_.out (by kernel_rfl)) (fun _ _ _ h => h) (Or.inl ⟨by rfl, ?_⟩) ?_ ?_; rotate_left; (intro w'; go_simp; with_reducible rfl); rotate_left; (simp only [pq29]; rfl)
       refine pure_ (i := 1) (N := some 8) (v := ?_) (a' := ?_) #[Y29,Y29,N29,N29,N29,N29,N29,N29,N29,N29,N29,N29,N29,N29,N29] rfl rfl (any_of HT_.out (by kernel_rfl)) (fun _ _ _ h => h) (Or.inl ⟨by rfl, ?_⟩) ?_ ?_; rotate_left; (intro w'; go_simp; with_reducible rfl); rotate_left; (simp only [pq29]; rfl)
       refine pure_ (i := 2) (N := some 9) (v := ?_) (a' := ?_) #[Y29,Y29,Y29,N29,N29,N29,N29,N29,N29,N29,N29,N29,N29,N29,N29] rfl rfl (any_of HT_.out (by kernel_rfl)) (fun _ _ _ h => h) (Or.inl ⟨by rfl, ?_⟩) ?_ ?_; rotate_left; (intro w'; go_simp; with_reducible rfl); rotate_left; (simp only [pq29]; rfl)
       refine pure_ (i := 3) (N := some 10) (v := ?_) (a' := ?_) #[Y29,Y29,Y29,Y29,N29,N29,N29,N29,N29,N29,N29,N29,N29,N29,N29] rfl rfl (any_of HT_.out (by kernel_rfl)) (fun _ _ _ h => h) (Or.inl ⟨by rfl, ?_⟩) ?_ ?_; rotate_left; (intro w'; go_simp; with_reducible rfl); rotate_left; (simp only [pq29]; rfl)
       refine pure_ (i := 4) (N := some 11) (v := ?_) (a' := ?_) #[Y29,Y29,Y29,Y29,Y29,N29,N29,N29,N29,N29,N29,N29,N29,N29,N29] rfl rfl (any_of HT_.out (by kernel_rfl)) (fun _ _ _ h => h) (Or.inl ⟨by rfl, ?_⟩) ?_ ?_; rotate_left; (intro w'; go_simp; with_reducible rfl); rotate_left; (simp only [pq29]; rfl)
       refine pure_ (i := 5) (N := some 12) (v := ?_) (a' := ?_) #[Y29,Y29,Y29,Y29,Y29,Y29,N29,N29,N29,N29,N29,N29,N29,N29,N29] rfl rfl (any_of HT_.out (by kernel_rfl)) (fun _ _ _ h => h) (Or.inl ⟨by rfl, ?_⟩) ?_ ?_; rotate_left; (intro w'; go_simp; with_reducible rfl); rotate_left; (simp only [pq29]; rfl)
       refine pure_ (i := 6) (N := some 13) (v := ?_) (a' := ?_) #[Y29,Y29,Y29,Y29,Y29,Y29,Y29,N29,N29,N29,N29,N29,N29,N29,N29] rfl rfl (any_of HT_.out (by kernel_rfl)) (fun _ _ _ h => h) (Or.inl ⟨by rfl, ?_⟩) ?_ ?_; rotate_left; (intro w'; go_simp; with_reducible rfl); rotate_left; (simp only [pq29]; rfl)
       refine pure_ (i := 7) (N := some 14) (v := ?_) (a' := ?_) #[Y29,Y29,Y29,Y29,Y29,Y29,Y29,Y29,N29,N29,N29,N29,N29,N29,N29] rfl rfl (any_of HT_.out (by kernel_rfl)) (fun _ _ _ h => h) (Or.inl ⟨by rfl, ?_⟩) ?_ ?_; rotate_left; (intro w'; go_simp; with_reducible rfl); rotate_left; (simp only [pq29]; rfl)
       refine pure_ (i := 8) (N := some 15) (v := ?_) (a' := ?_) #[Y29,Y29,Y29,Y29,Y29,Y29,Y29,Y29,Y29,N29,N29,N29,N29,N29,N29] rfl rfl (any_of HT_.out (by kernel_rfl)) (fun _ _ _ h => h) (Or.inl ⟨by rfl, ?_⟩) ?_ ?_; rotate_left; (intro w'; go_simp; with_reducible rfl); rotate_left; (simp only [pq29]; rfl)
       refine pure_ (i := 10) (N := some 17) (v := ?_) (a' := ?_) #[Y29,Y29,Y29,Y29,Y29,Y29,Y29,Y29,Y29,N29,Y29,N29,N29,N29,N29] rfl rfl (any_of HT_.out (by kernel_rfl)) (fun _ _ _ h => h) (Or.inl ⟨by rfl, ?_⟩) ?_ ?_; rotate_left; (intro w'; go_simp; with_reducible rfl); rotate_left; (simp only [pq29]; rfl)
       refine take_ (i := 9) (N := some 16) (v := ?_) (a' := ?_) #[Y29,Y29,Y29,Y29,Y29,Y29,Y29,Y29,Y29,Y29,Y29,N29,N29,N29,N29] rfl rfl (take_ofW HT_.out HW_.out (by kernel_rfl)) (fun _ _ _ h => h) (Or.inl ⟨by rfl, ?_⟩) hHeld ?_ ?_
       rotate_left
       · rintro w' ⟨s0, s1, s2, s3, s4, s5⟩
         go_simp
         with_reducible rfl
       rotate_left
       · simp only [pq29]
         rfl
       refine take_ (i := 11) (N := some 18) (v := ?_) (a' := ?_) #[Y29,Y29,Y29,Y29,Y29,Y29,Y29,Y29,Y29,Y29,Y29,Y29,N29,N29,N29] rfl rfl (take_ofW HT_.out HW_.out (by kernel_rfl)) (fun _ _ _ h => h) (Or.inl ⟨by rfl, ?_⟩) hHeld ?_ ?_
       rotate_left
       · rintro w' ⟨s0, s1, s2, s3, s4, s5⟩
         go_simp
         with_reducible rfl
       rotate_left
       · simp only [pq29]
         rfl
       refine one_ (i := 12) (N := some 19) #[Y29,Y29,Y29,Y29,Y29,Y29,Y29,Y29,Y29,Y29,Y29,Y29,Y29,N29,N29] rfl rfl (one_of HT_.out (by kernel_rfl)) (by decide) (fun K hK => ?_)
       refine goes_ Tryd.func15 (by kernel_rfl) rfl #[.agg #[.int .i64 ((rd_T36 l0 x5_1).f0.f0), .slice A276_1 ((rd_T36 l0 x5_1).f0.f1).length c276_1], .agg #[.int .i64 a1_0, .slice A1_1 l1_1.length c1_1]] (by rfl) rfl rfl (by (try simp only [List.map_toArray, List.map_cons, List.map_nil]); first | done | rfl | (simp only [List.length_drop, List.length_take]; rfl)) ?_
       with_reducible refine (interlocutorref10_Cmp.calls k1 ((rd_T36 l0 x5_1).f0.f0) _ _ ((rd_T36 l0 x5_1).f0.f1) a1_0 _ _ l1_1 t277 _ ?side1 ?side2 ?side3 ?side4 A7.out).mono ?_
       (case side1 => repeat (first | exact (by repeat (first | (with_reducible exact HR276_1.out) | (with_reducible refine Kd.C_alloc ?_ _) | (with_reducible refine Kd.C_drewN ?_ _) | (with_reducible refine Kd.C_drew ?_) | exact HR276_1.out)) | (with_reducible refine Kd.C_alloc ?_ _) | (with_reducible refine Kd.C_drewN ?_ _) | (with_reducible refine Kd.C_drew ?_)))
       (case side2 => exact HC276_1.out)
       (case side3 => repeat (first | exact (Kd.V_reads' HO_276001.out).2.2 | (with_reducible refine Kd.C_alloc ?_ _) | (with_reducible refine Kd.C_drewN ?_ _) | (with_reducible refine Kd.C_drew ?_)))
       (case side4 => exact (Kd.V_reads' HO_276001.out).2.1)
       rintro e w12 ⟨rfl, hb⟩
       have HS3_ := (hb.cell (World.block_lt_of_cell? _ _ (hHeld.2.2.2.1))).trans (hHeld.2.2.2.1)
       have HS4_ := (hb.cell (World.block_lt_of_cell? _ _ (hHeld.2.2.2.2.1))).trans (hHeld.2.2.2.2.1)
       have HS5_ := (hb.cell (World.block_lt_of_cell? _ _ (hHeld.2.2.2.2.2))).trans (hHeld.2.2.2.2.2)
       refine ⟨_, rfl, ?_⟩
       have n0_ := Aside0.mk (Kd.V_below (by exact vU HO_0.out) hb)
       have n1_ := Aside0.mk (Kd.V_below (by exact vU HO_276001.out) hb)
       have n2_ := Aside0.mk (Kd.V_below (by exact vU HL276_1.out) hb)
       have n3_ := Aside0.mk (blk_below (g := gb275) (o := .cells #[.int .i64 a1_0, .slice A1_1 l1_1.length c1_1, .int .i64 a1_2] 36 (0, 0)) (by (with_reducible repeat (first | refine blk_drewN ?_ _ | refine blk_drew ?_ | refine blk_alloc ?_ _)); exact BK275.out) hb)
       have n4_ := Aside0.mk (Kd.C_below (by repeat (first | (with_reducible exact HR276_1.out) | (with_reducible refine Kd.C_alloc ?_ _) | (with_reducible refine Kd.C_drewN ?_ _) | (with_reducible refine Kd.C_drew ?_) | exact HR276_1.out)) hb)
       have n5_ := Aside0.mk (below_step (by exact wS HB.out GE275.out) hb)
       clear HO_0 HO_276001 HL276_1 BK275 HR276_1 HB
       have HO_0 := n0_
       have HO_276001 := n1_
       have HL276_1 := n2_
       have BK275 := n3_
       have HR276_1 := n4_
       have HB := n5_
       clear n0_ n1_ n2_ n3_ n4_ n5_
       (try clear hb)
       (try clear hb2)
       (try clear hk)
       (try clear hi)
       refine hK.out _ _ ⟨(blk_cell BK275.out 0).trans rfl, (blk_cell BK275.out 1).trans rfl, (blk_cell BK275.out 2).trans rfl, HS3_, HS4_, HS5_⟩ (fun hHeld => ?_)
       clear hK K
       refine norm_ (a' := ?_) ?_ ?_
       rotate_left
       · show Act.put _ (some 19) _ = _
         simp only [pq29]
         rfl
       refine pure_ (i := 13) (N := some 20) (v := ?_) (a' := ?_) #[Y29,Y29,Y29,Y29,Y29,Y29,Y29,Y29,Y29,Y29,Y29,Y29,Y29,Y29,N29] rfl rfl (any_of HT_.out (by kernel_rfl)) (fun _ _ _ h => h) (Or.inl ⟨by rfl, ?_⟩) ?_ ?_; rotate_left; (intro w'; go_simp; with_reducible rfl); rotate_left; (simp only [pq29]; rfl)
       refine pure_ (i := 14) (N := some 21) (v := ?_) (a' := ?_) #[Y29,Y29,Y29,Y29,Y29,Y29,Y29,Y29,Y29,Y29,Y29,Y29,Y29,Y29,Y29] rfl rfl (any_of HT_.out (by kernel_rfl)) (fun _ _ _ h => h) (Or.inl ⟨by rfl, ?_⟩) ?_ ?_; rotate_left; (intro w'; go_simp; with_reducible rfl); rotate_left; (simp only [pq29]; rfl)
       refine done_ (done_of HT_.out (by kernel_rfl)) ?_
       try go_wp2
       go_meet
       case rel => exact ⟨_, (x5_1), (by first | rfl | (simp; done) | (simp [*]; done)), H', ⟨by have := HK1.out; first | omega | exact Nat.le_refl _⟩, ⟨by exact vU HO_0.out⟩, ⟨by exact vU HO_276001.out⟩, ⟨by (with_reducible repeat (first | refine blk_drewN ?_ _ | refine blk_drew ?_ | refine blk_alloc ?_ _)); exact BK275.out⟩, ⟨by exact wS HB.out GE275.out⟩⟩
     rw [if_pos c8] at H
     have c8b0 : decide (t277 < 0) = true := decide_eq_true c8
     have c8b7 : t277 < 0 := of_decide_eq_true c8b0
     clear c8
     have H' := Aside0.mk H
     clear H
     try go_wp2
     have n0_ := Aside0.mk (Kd.V_drew HO_0.out)
     have n1_ := Aside0.mk (Kd.V_drew HO_276001.out)
     have n2_ := Aside0.mk (blk_drew BK275.out)
     have n3_ := Aside0.mk (below_drew1 HB.out)
     clear HO_0 HO_276001 BK275 HB
     have HO_0 := n0_
     have HO_276001 := n1_
     have BK275 := n2_
     have HB := n3_
     clear n0_ n1_ n2_ n3_
     have p276 : 0 ≤ (x5_1 : Int) := of_decide_eq_true (by first | (with_reducible assumption) | assumption)
     have q276 : x5_1 < (l0.length : Int) := of_decide_eq_true (by first | (with_reducible assumption) | assumption)
     obtain ⟨ad276, A276_1, c276_1, e276, hx276_0, hx276_1, hx276_2, hl276_1, hi276_1⟩ := at_T36 (Kd.V_reads' HO_0.out).2.2 x5_1 p276 q276
     cases e276
     obtain ⟨ce276, hce276, hMe276, hcc276⟩ := Kd.V_get HO_0.out z36 x5_1 p276 (by first | exact q276 | exact of_decide_eq_true (by first | (with_reducible assumption) | assumption) | (have e_ := (Kd.V_reads' HO_0.out).1; omega))
     obtain ⟨ua276_1, uc276_1, rfl, ul276_1, ge276_1⟩ := k36_openF hMe276
     have hv276_1 := hcc276 1 _ rfl
     rw [add_field _ _ 1 (by omega)] at hv276_1
     replace hv276_1 := Option.some.inj (hv276_1.symm.trans hx276_1)
     injection hv276_1 with hva_ hvn_ hvc_
     rw [hva_] at ge276_1
     rw [hvc_] at ul276_1
     have HL276_1 := Aside0.mk (show Kd.V (Kd.int .i64) 3 _ w.heap.size _ _ ((rd_T36 l0 x5_1).f0.f1) from Kd.V_mk ul276_1 ge276_1)
     clear hva_ hvn_ hvc_ ge276_1 ul276_1 hcc276 hce276
     have HR276_1 := Aside0.mk hi276_1
     have HC276_1 := Aside0.mk hl276_1
     clear hi276_1 hl276_1
     replace p276 := eq_true p276
     replace q276 := eq_true q276
     refine start_ (n := 15) (S := fun w' => w'.cell? ⟨gb275, 0, none⟩ = some (.int .i64 a1_0) ∧ w'.cell? ⟨gb275, 1, none⟩ = some (.slice A1_1 l1_1.length c1_1) ∧ w'.cell? ⟨gb275, 2, none⟩ = some (.int .i64 a1_2) ∧ w'.cell? (ad276.add ((x5_1).toNat * 3)) = some (.int .i64 ((rd_T36 l0 x5_1).f0.f0)) ∧ w'.cell? ⟨(ad276.add ((x5_1).toNat * 3)).block, (ad276.add ((x5_1).toNat * 3)).off + 1, none⟩ = some (.slice A276_1 ((rd_T36 l0 x5_1).f0.f1).length c276_1) ∧ w'.cell? ⟨(ad276.add ((x5_1).toNat * 3)).block, (ad276.add ((x5_1).toNat * 3)).off + 2, none⟩ = some (.int .i64 ((rd_T36 l0 x5_1).f1))) (ds := []) #[N29,N29,N29,N29,N29,N29,N29,N29,N29,N29,N29,N29,N29,N29,N29] (by kernel_rfl) rfl rfl ⟨(blk_cell BK275.out 0).trans rfl, (blk_cell BK275.out 1).trans rfl, (blk_cell BK275.out 2).trans rfl, hx276_0, hx276_1, hx276_2⟩ (fun hHeld => ?_); refine with_tabW interlocutorref10_Add.tab2 interlocutorref10_Add.bits2 (fun HT_ HW_ => ?_)
     generalize wr.drew = w9 at HO_0 HO_276001 BK275 HB HL276_1 HR276_1 hx276_0 hx276_1 hx276_2 hHeld ⊢
     refine pure_ (i := 0) (N := some 7) (v := ?_) (a' := ?_) #[Y29,N29,N29,N29,N29,N29,N29,N29,N29,N29,N29,N29,N29,N29,N29] rfl rfl (any_of HT_.out (by kernel_rfl)) (fun _ _ _ h => h) (Or.inl ⟨by rfl, ?_⟩) ?_ ?_; rotate_left; (intro w'; go_simp; with_reducible rfl); rotate_left; (simp only [pq29]; rfl)
     refine pure_ (i := 1) (N := some 8) (v := ?_) (a' := ?_) #[Y29,Y29,N29,N29,N29,N29,N29,N29,N29,N29,N29,N29,N29,N29,N29] rfl rfl (any_of HT_.out (by kernel_rfl)) (fun _ _ _ h => h) (Or.inl ⟨by rfl, ?_⟩) ?_ ?_; rotate_left; (intro w'; go_simp; with_reducible rfl); rotate_left; (simp only [pq29]; rfl)
     refine pure_ (i := 2) (N := some 9) (v := ?_) (a' := ?_) #[Y29,Y29,Y29,N29,N29,N29,N29,N29,N29,N29,N29,N29,N29,N29,N29] rfl rfl (any_of HT_.out (by kernel_rfl)) (fun _ _ _ h => h) (Or.inl ⟨by rfl, ?_⟩) ?_ ?_; rotate_left; (intro w'; go_simp; with_reducible rfl); rotate_left; (simp only [pq29]; rfl)
     refine pure_ (i := 3) (N := some 10) (v := ?_) (a' := ?_) #[Y29,Y29,Y29,Y29,N29,N29,N29,N29,N29,N29,N29,N29,N29,N29,N29] rfl rfl (any_of HT_.out (by kernel_rfl)) (fun _ _ _ h => h) (Or.inl ⟨by rfl, ?_⟩) ?_ ?_; rotate_left; (intro w'; go_simp; with_reducible rfl); rotate_left; (simp only [pq29]; rfl)
     refine pure_ (i := 4) (N := some 11) (v := ?_) (a' := ?_) #[Y29,Y29,Y29,Y29,Y29,N29,N29,N29,N29,N29,N29,N29,N29,N29,N29] rfl rfl (any_of HT_.out (by kernel_rfl)) (fun _ _ _ h => h) (Or.inl ⟨by rfl, ?_⟩) ?_ ?_; rotate_left; (intro w'; go_simp; with_reducible rfl); rotate_left; (simp only [pq29]; rfl)
     refine pure_ (i := 5) (N := some 12) (v := ?_) (a' := ?_) #[Y29,Y29,Y29,Y29,Y29,Y29,N29,N29,N29,N29,N29,N29,N29,N29,N29] rfl rfl (any_of HT_.out (by kernel_rfl)) (fun _ _ _ h => h) (Or.inl ⟨by rfl, ?_⟩) ?_ ?_; rotate_left; (intro w'; go_simp; with_reducible rfl); rotate_left; (simp only [pq29]; rfl)
     refine pure_ (i := 6) (N := some 13) (v := ?_) (a' := ?_) #[Y29,Y29,Y29,Y29,Y29,Y29,Y29,N29,N29,N29,N29,N29,N29,N29,N29] rfl rfl (any_of HT_.out (by kernel_rfl)) (fun _ _ _ h => h) (Or.inl ⟨by rfl, ?_⟩) ?_ ?_; rotate_left; (intro w'; go_simp; with_reducible rfl); rotate_left; (simp only [pq29]; rfl)
     refine pure_ (i := 7) (N := some 14) (v := ?_) (a' := ?_) #[Y29,Y29,Y29,Y29,Y29,Y29,Y29,Y29,N29,N29,N29,N29,N29,N29,N29] rfl rfl (any_of HT_.out (by kernel_rfl)) (fun _ _ _ h => h) (Or.inl ⟨by rfl, ?_⟩) ?_ ?_; rotate_left; (intro w'; go_simp; with_reducible rfl); rotate_left; (simp only [pq29]; rfl)
     refine pure_ (i := 8) (N := some 15) (v := ?_) (a' := ?_) #[Y29,Y29,Y29,Y29,Y29,Y29,Y29,Y29,Y29,N29,N29,N29,N29,N29,N29] rfl rfl (any_of HT_.out (by kernel_rfl)) (fun _ _ _ h => h) (Or.inl ⟨by rfl, ?_⟩) ?_ ?_; rotate_left; (intro w'; go_simp; with_reducible rfl); rotate_left; (simp only [pq29]; rfl)
     refine pure_ (i := 10) (N := some 17) (v := ?_) (a' := ?_) #[Y29,Y29,Y29,Y29,Y29,Y29,Y29,Y29,Y29,N29,Y29,N29,N29,N29,N29] rfl rfl (any_of HT_.out (by kernel_rfl)) (fun _ _ _ h => h) (Or.inl ⟨by rfl, ?_⟩) ?_ ?_; rotate_left; (intro w'; go_simp; with_reducible rfl); rotate_left; (simp only [pq29]; rfl)
     refine take_ (i := 9) (N := some 16) (v := ?_) (a' := ?_) #[Y29,Y29,Y29,Y29,Y29,Y29,Y29,Y29,Y29,Y29,Y29,N29,N29,N29,N29] rfl rfl (take_ofW HT_.out HW_.out (by kernel_rfl)) (fun _ _ _ h => h) (Or.inl ⟨by rfl, ?_⟩) hHeld ?_ ?_
     rotate_left
     · rintro w' ⟨s0, s1, s2, s3, s4, s5⟩
       go_simp
       with_reducible rfl
     rotate_left
     · simp only [pq29]
       rfl
     refine take_ (i := 11) (N := some 18) (v := ?_) (a' := ?_) #[Y29,Y29,Y29,Y29,Y29,Y29,Y29,Y29,Y29,Y29,Y29,Y29,N29,N29,N29] rfl rfl (take_ofW HT_.out HW_.out (by kernel_rfl)) (fun _ _ _ h => h) (Or.inl ⟨by rfl, ?_⟩) hHeld ?_ ?_
     rotate_left
     · rintro w' ⟨s0, s1, s2, s3, s4, s5⟩
       go_simp
       with_reducible rfl
     rotate_left
     · simp only [pq29]
       rfl
     refine one_ (i := 12) (N := some 19) #[Y29,Y29,Y29,Y29,Y29,Y29,Y29,Y29,Y29,Y29,Y29,Y29,Y29,N29,N29] rfl rfl (one_of HT_.out (by kernel_rfl)) (by decide) (fun K hK => ?_)
     refine goes_ Tryd.func15 (by kernel_rfl) rfl #[.agg #[.int .i64 ((rd_T36 l0 x5_1).f0.f0), .slice A276_1 ((rd_T36 l0 x5_1).f0.f1).length c276_1], .agg #[.int .i64 a1_0, .slice A1_1 l1_1.length c1_1]] (by rfl) rfl rfl (by (try simp only [List.map_toArray, List.map_cons, List.map_nil]); first | done | rfl | (simp only [List.length_drop, List.length_take]; rfl)) ?_
     with_reducible refine (interlocutorref10_Cmp.calls k1 ((rd_T36 l0 x5_1).f0.f0) _ _ ((rd_T36 l0 x5_1).f0.f1) a1_0 _ _ l1_1 t277 _ ?side1 ?side2 ?side3 ?side4 A7.out).mono ?_
     (case side1 => repeat (first | exact (by repeat (first | (with_reducible exact HR276_1.out) | (with_reducible refine Kd.C_alloc ?_ _) | (with_reducible refine Kd.C_drewN ?_ _) | (with_reducible refine Kd.C_drew ?_) | exact HR276_1.out)) | (with_reducible refine Kd.C_alloc ?_ _) | (with_reducible refine Kd.C_drewN ?_ _) | (with_reducible refine Kd.C_drew ?_)))
     (case side2 => exact HC276_1.out)
     (case side3 => repeat (first | exact (Kd.V_reads' HO_276001.out).2.2 | (with_reducible refine Kd.C_alloc ?_ _) | (with_reducible refine Kd.C_drewN ?_ _) | (with_reducible refine Kd.C_drew ?_)))
     (case side4 => exact (Kd.V_reads' HO_276001.out).2.1)
     rintro e w10 ⟨rfl, hb⟩
     have HS3_ := (hb.cell (World.block_lt_of_cell? _ _ (hHeld.2.2.2.1))).trans (hHeld.2.2.2.1)
     have HS4_ := (hb.cell (World.block_lt_of_cell? _ _ (hHeld.2.2.2.2.1))).trans (hHeld.2.2.2.2.1)
     have HS5_ := (hb.cell (World.block_lt_of_cell? _ _ (hHeld.2.2.2.2.2))).trans (hHeld.2.2.2.2.2)
     refine ⟨_, rfl, ?_⟩
     have n0_ := Aside0.mk (Kd.V_below (by exact vU HO_0.out) hb)
     have n1_ := Aside0.mk (Kd.V_below (by exact vU HO_276001.out) hb)
     have n2_ := Aside0.mk (Kd.V_below (by exact vU HL276_1.out) hb)
     have n3_ := Aside0.mk (blk_below (g := gb275) (o := .cells #[.int .i64 a1_0, .slice A1_1 l1_1.length c1_1, .int .i64 a1_2] 36 (0, 0)) (by (with_reducible repeat (first | refine blk_drewN ?_ _ | refine blk_drew ?_ | refine blk_alloc ?_ _)); exact BK275.out) hb)
     have n4_ := Aside0.mk (Kd.C_below (by repeat (first | (with_reducible exact HR276_1.out) | (with_reducible refine Kd.C_alloc ?_ _) | (with_reducible refine Kd.C_drewN ?_ _) | (with_reducible refine Kd.C_drew ?_) | exact HR276_1.out)) hb)
     have n5_ := Aside0.mk (below_step (by exact wS HB.out GE275.out) hb)
     clear HO_0 HO_276001 HL276_1 BK275 HR276_1 HB
     have HO_0 := n0_
     have HO_276001 := n1_
     have HL276_1 := n2_
     have BK275 := n3_
     have HR276_1 := n4_
     have HB := n5_
     clear n0_ n1_ n2_ n3_ n4_ n5_
     (try clear hb)
     (try clear hb2)
     (try clear hk)
     (try clear hi)
     refine hK.out _ _ ⟨(blk_cell BK275.out 0).trans rfl, (blk_cell BK275.out 1).trans rfl, (blk_cell BK275.out 2).trans rfl, HS3_, HS4_, HS5_⟩ (fun hHeld => ?_)
     clear hK K
     refine norm_ (a' := ?_) ?_ ?_
     rotate_left
     · show Act.put _ (some 19) _ = _
       simp only [pq29]
       rfl
     refine pure_ (i := 13) (N := some 20) (v := ?_) (a' := ?_) #[Y29,Y29,Y29,Y29,Y29,Y29,Y29,Y29,Y29,Y29,Y29,Y29,Y29,Y29,N29] rfl rfl (any_of HT_.out (by kernel_rfl)) (fun _ _ _ h => h) (Or.inl ⟨by rfl, ?_⟩) ?_ ?_; rotate_left; (intro w'; go_simp; with_reducible rfl); rotate_left; (simp only [pq29]; rfl)
     refine pure_ (i := 14) (N := some 21) (v := ?_) (a' := ?_) #[Y29,Y29,Y29,Y29,Y29,Y29,Y29,Y29,Y29,Y29,Y29,Y29,Y29,Y29,Y29] rfl rfl (any_of HT_.out (by kernel_rfl)) (fun _ _ _ h => h) (Or.inl ⟨by rfl, ?_⟩) ?_ ?_; rotate_left; (intro w'; go_simp; with_reducible rfl); rotate_left; (simp only [pq29]; rfl)
     refine done_ (done_of HT_.out (by kernel_rfl)) ?_
     try go_wp2
     go_roundg k1
     case measure => have := HK1.out; omega
     case rel => exact ⟨(wrap64 (x5_1 + 1)), (by first | rfl | (simp; done) | (simp [*]; done)), H', ⟨by have := HK1.out; omega⟩, ⟨by exact vU HO_0.out⟩, ⟨by exact vU HO_276001.out⟩, ⟨by (with_reducible repeat (first | refine blk_drewN ?_ _ | refine blk_drew ?_ | refine blk_alloc ?_ _)); exact BK275.out⟩, ⟨by exact wS HB.out GE275.out⟩⟩
  case rest =>
   clear HC3
   try clear c1
   try clear c2
   try clear p2
   try clear q2
   try clear hx2
   try clear c5
   try clear c5b0
   try clear c6
   try clear c6b0
   try clear p6
   try clear c8
   try clear c8b0
   try clear hx276_0
   try clear hx276_1
   try clear hx276_2
   try clear p2
   try clear p276
   try clear q276
   obtain ⟨kq, x5_2, rfl, HA, HJ2, HO_0, HO_276001, BK275, HB⟩ := hcut
   cases kq with
   | zero => exact absurd HA.out (by simp [interlocutorref10_Add.j1])
   | succ kj2 =>
    have H := HA.out
    clear HA
    simp only [interlocutorref10_Add.j1] at H
    have HC14 := Aside0.mk H
    clear H
    go_upto_region 4 with (fail)
    go_cut [38] (fun v38 wc => ∃ (kq : Nat) (x38_13 : Bool), v38 = .bool x38_13 ∧ Aside0 (interlocutorref10_Add.j2 kq l0 x5_2 x38_13 a1_0 l1_1 a1_2 = some r) ∧ Aside0 (kq ≤ kj2) ∧ Aside0 (Kd.V k36 36 wc w.heap.size (fun k_ => ((P0_ k_ ∨ P1_1_ k_) ∨ w.heap.size ≤ k_) ∧ k_ ≠ gb275) (.slice A0 l0.length c0) l0) ∧ Aside0 (Kd.V (Kd.int .i64) 3 wc w.heap.size (fun k_ => ((P0_ k_ ∨ P1_1_ k_) ∨ w.heap.size ≤ k_) ∧ k_ ≠ gb275) (.slice A1_1 l1_1.length c1_1) l1_1) ∧ Aside0 (wc.heap[gb275]? = some (.cells #[.int .i64 a1_0, (.slice A1_1 l1_1.length c1_1), .int .i64 a1_2] 36 (0, 0))) ∧ Aside0 (Below w.heap.size w wc))
    case first =>
     have H := HC14.out
     clear HC14
     by_cases c15 : x5_2 < (l0.length : Int)
     rotate_left
     · rw [if_neg c15] at H
       have c15b0 : decide (x5_2 < (l0.length : Int)) = false := decide_eq_false c15
       clear c15
       (first | rw [c15b0] | (simp only [i64_w, i32_w]; rw [c15b0]) | skip)
       have H' := Aside0.mk H
       clear H
       try go_wp2
       have n0_ := Aside0.mk (Kd.V_drew HO_0.out)
       have n1_ := Aside0.mk (Kd.V_drew HO_276001.out)
       have n2_ := Aside0.mk (blk_drew BK275.out)
       have n3_ := Aside0.mk (below_drew1 HB.out)
       clear HO_0 HO_276001 BK275 HB
       have HO_0 := n0_
       have HO_276001 := n1_
       have BK275 := n2_
       have HB := n3_
       clear n0_ n1_ n2_ n3_
       refine start_ (n := 15) (S := fun w' => True) (ds := []) #[N29,N29,N29,N29,N29,N29,N29,N29,N29,N29,N29,N29,N29,N29,N29] (by kernel_rfl) rfl rfl trivial (fun hHeld => ?_); refine with_tabW interlocutorref10_Add.tab4 interlocutorref10_Add.bits4 (fun HT_ HW_ => ?_)
       generalize wc.drew = w20 at HO_0 HO_276001 BK275 HB hHeld ⊢
       refine pure_ (i := 0) (N := some 24) (v := ?_) (a' := ?_) #[Y29,N29,N29,N29,N29,N29,N29,N29,N29,N29,N29,N29,N29,N29,N29] rfl rfl (any_of HT_.out (by kernel_rfl)) (fun _ _ _ h => h) (Or.inl ⟨by rfl, ?_⟩) ?_ ?_; rotate_left; (intro w'; go_simp; with_reducible rfl); rotate_left; (simp only [pq29]; rfl)
       refine pure_ (i := 1) (N := some 25) (v := ?_) (a' := ?_) #[Y29,Y29,N29,N29,N29,N29,N29,N29,N29,N29,N29,N29,N29,N29,N29] rfl rfl (any_of HT_.out (by kernel_rfl)) (fun _ _ _ h => h) (Or.inl ⟨by rfl, ?_⟩) ?_ ?_; rotate_left; (intro w'; go_simp; with_reducible rfl); rotate_left; (simp only [pq29]; rfl)
       refine pure_ (i := 2) (N := some 26) (v := ?_) (a' := ?_) #[Y29,Y29,Y29,N29,N29,N29,N29,N29,N29,N29,N29,N29,N29,N29,N29] rfl rfl (any_of HT_.out (by kernel_rfl)) (fun _ _ _ h => h) (Or.inl ⟨by rfl, ?_⟩) ?_ ?_; rotate_left; (intro w'; go_simp; with_reducible rfl); rotate_left; (simp only [pq29]; rfl)
       refine pure_ (i := 3) (N := some 27) (v := ?_) (a' := ?_) #[Y29,Y29,Y29,Y29,N29,N29,N29,N29,N29,N29,N29,N29,N29,N29,N29] rfl rfl (any_of HT_.out (by kernel_rfl)) (fun _ _ _ h => h) (Or.inl ⟨by rfl, ?_⟩) ?_ ?_; rotate_left; (intro w'; go_simp; with_reducible rfl); rotate_left; (simp only [pq29]; rfl)
       refine pure_ (i := 4) (N := some 28) (v := ?_) (a' := ?_) #[Y29,Y29,Y29,Y29,Y29,N29,N29,N29,N29,N29,N29,N29,N29,N29,N29] rfl rfl (any_of HT_.out (by kernel_rfl)) (fun _ _ _ h => h) (Or.inl ⟨by rfl, ?_⟩) ?_ ?_; rotate_left; (intro w'; go_simp; with_reducible rfl); rotate_left; (simp only [pq29]; rfl)
       refine pure_ (i := 5) (N := some 29) (v := undef) (a' := ?_) #[Y29,Y29,Y29,Y29,Y29,Y29,N29,N29,N29,N29,N29,N29,N29,N29,N29] rfl rfl (any_of HT_.out (by kernel_rfl)) (fun _ _ _ h => h) (Or.inr ⟨by rfl, rfl⟩) ?_ ?_
       rotate_left
       · simp only [pq29]
         rfl
       refine pure_ (i := 6) (N := some 30) (v := undef) (a' := ?_) #[Y29,Y29,Y29,Y29,Y29,Y29,Y29,N29,N29,N29,N29,N29,N29,N29,N29] rfl rfl (any_of HT_.out (by kernel_rfl)) (fun _ _ _ h => h) (Or.inr ⟨by rfl, rfl⟩) ?_ ?_
       rotate_left
       · simp only [pq29]
         rfl
       refine pure_ (i := 7) (N := some 31) (v := undef) (a' := ?_) #[Y29,Y29,Y29,Y29,Y29,Y29,Y29,Y29,N29,N29,N29,N29,N29,N29,N29] rfl rfl (any_of HT_.out (by kernel_rfl)) (fun _ _ _ h => h) (Or.inr ⟨by rfl, rfl⟩) ?_ ?_
       rotate_left
       · simp only [pq29]
         rfl
       refine pure_ (i := 8) (N := some 32) (v := undef) (a' := ?_) #[Y29,Y29,Y29,Y29,Y29,Y29,Y29,Y29,Y29,N29,N29,N29,N29,N29,N29] rfl rfl (any_of HT_.out (by kernel_rfl)) (fun _ _ _ h => h) (Or.inr ⟨by rfl, rfl⟩) ?_ ?_
       rotate_left
       · simp only [pq29]
         rfl
       refine pure_ (i := 9) (N := some 33) (v := undef) (a' := ?_) #[Y29,Y29,Y29,Y29,Y29,Y29,Y29,Y29,Y29,Y29,N29,N29,N29,N29,N29] rfl rfl (any_of HT_.out (by kernel_rfl)) (fun _ _ _ h => h) (Or.inr ⟨by rfl, rfl⟩) ?_ ?_
       rotate_left
       · simp only [pq29]
         rfl
       refine pure_ (i := 10) (N := some 34) (v := undef) (a' := ?_) #[Y29,Y29,Y29,Y29,Y29,Y29,Y29,Y29,Y29,Y29,Y29,N29,N29,N29,N29] rfl rfl (any_of HT_.out (by kernel_rfl)) (fun _ _ _ h => h) (Or.inr ⟨by rfl, rfl⟩) ?_ ?_
       rotate_left
       · simp only [pq29]
         rfl
       refine pure_ (i := 11) (N := some 35) (v := undef) (a' := ?_) #[Y29,Y29,Y29,Y29,Y29,Y29,Y29,Y29,Y29,Y29,Y29,Y29,N29,N29,N29] rfl rfl (any_of HT_.out (by kernel_rfl)) (fun _ _ _ h => h) (Or.inr ⟨by rfl, rfl⟩) ?_ ?_
       rotate_left
       · simp only [pq29]
         rfl
       refine pure_ (i := 12) (N := some 36) (v := undef) (a' := ?_) #[Y29,Y29,Y29,Y29,Y29,Y29,Y29,Y29,Y29,Y29,Y29,Y29,Y29,N29,N29] rfl rfl (any_of HT_.out (by kernel_rfl)) (fun _ _ _ h => h) (Or.inr ⟨by rfl, rfl⟩) ?_ ?_
       rotate_left
       · simp only [pq29]
         rfl
       refine pure_ (i := 13) (N := some 37) (v := undef) (a' := ?_) #[Y29,Y29,Y29,Y29,Y29,Y29,Y29,Y29,Y29,Y29,Y29,Y29,Y29,Y29,N29] rfl rfl (any_of HT_.out (by kernel_rfl)) (fun _ _ _ h => h) (Or.inr ⟨by rfl, rfl⟩) ?_ ?_
       rotate_left
       · simp only [pq29]
         rfl
       refine pure_ (i := 14) (N := some 38) (v := ?_) (a' := ?_) #[Y29,Y29,Y29,Y29,Y29,Y29,Y29,Y29,Y29,Y29,Y29,Y29,Y29,Y29,Y29] rfl rfl (any_of HT_.out (by kernel_rfl)) (fun _ _ _ h => h) (Or.inl ⟨by rfl, ?_⟩) ?_ ?_; rotate_left; (intro w'; go_simp; with_reducible rfl); rotate_left; (simp only [pq29]; rfl)
       refine done_ (done_of HT_.out (by kernel_rfl)) ?_
       try go_wp2
       go_meet
       case rel => exact ⟨_, (false), (by first | rfl | (simp; done) | (simp [*]; done)), H', ⟨by have := HJ2.out; first | omega | exact Nat.le_refl _⟩, ⟨by exact vU HO_0.out⟩, ⟨by exact vU HO_276001.out⟩, ⟨by (with_reducible repeat (first | refine blk_drewN ?_ _ | refine blk_drew ?_ | refine blk_alloc ?_ _)); exact BK275.out⟩, ⟨by exact wS HB.out GE275.out⟩⟩
     rw [if_pos c15] at H
     have c15b0 : decide (x5_2 < (l0.length : Int)) = true := decide_eq_true c15
     clear c15
     (first | rw [c15b0] | (simp only [i64_w, i32_w]; rw [c15b0]) | skip)
     by_cases c16 : 0 ≤ x5_2
     rotate_left
     · rw [if_neg c16] at H
       exact absurd H (by simp)
     rw [if_pos c16] at H
     have c16b0 : decide (0 ≤ x5_2) = true := decide_eq_true c16
     clear c16
     replace H := Option.bind_eq_some_iff.mp H
     obtain ⟨t279, A170, H⟩ := H
     replace H : (interlocutorref10_Add.j2 kj2 l0 x5_2 (t279 == 0) a1_0 l1_1 a1_2) = some r := H
     have A17 := Aside0.mk A170
     clear A170
     have H' := Aside0.mk H
     clear H
     try go_wp2
     have n0_ := Aside0.mk (Kd.V_drew HO_0.out)
     have n1_ := Aside0.mk (Kd.V_drew HO_276001.out)
     have n2_ := Aside0.mk (blk_drew BK275.out)
     have n3_ := Aside0.mk (below_drew1 HB.out)
     clear HO_0 HO_276001 BK275 HB
     have HO_0 := n0_
     have HO_276001 := n1_
     have BK275 := n2_
     have HB := n3_
     clear n0_ n1_ n2_ n3_
     have p278 : 0 ≤ (x5_2 : Int) := of_decide_eq_true (by first | (with_reducible assumption) | assumption)
     have q278 : x5_2 < (l0.length : Int) := of_decide_eq_true (by first | (with_reducible assumption) | assumption)
     obtain ⟨ad278, A278_1, c278_1, e278, hx278_0, hx278_1, hx278_2, hl278_1, hi278_1⟩ := at_T36 (Kd.V_reads' HO_0.out).2.2 x5_2 p278 q278
     cases e278
     obtain ⟨ce278, hce278, hMe278, hcc278⟩ := Kd.V_get HO_0.out z36 x5_2 p278 (by first | exact q278 | exact of_decide_eq_true (by first | (with_reducible assumption) | assumption) | (have e_ := (Kd.V_reads' HO_0.out).1; omega))
     obtain ⟨ua278_1, uc278_1, rfl, ul278_1, ge278_1⟩ := k36_openF hMe278
     have hv278_1 := hcc278 1 _ rfl
     rw [add_field _ _ 1 (by omega)] at hv278_1
     replace hv278_1 := Option.some.inj (hv278_1.symm.trans hx278_1)
     injection hv278_1 with hva_ hvn_ hvc_
     rw [hva_] at ge278_1
     rw [hvc_] at ul278_1
     have HL278_1 := Aside0.mk (show Kd.V (Kd.int .i64) 3 _ w.heap.size _ _ ((rd_T36 l0 x5_2).f0.f1) from Kd.V_mk ul278_1 ge278_1)
     clear hva_ hvn_ hvc_ ge278_1 ul278_1 hcc278 hce278
     have HR278_1 := Aside0.mk hi278_1
     have HC278_1 := Aside0.mk hl278_1
     clear hi278_1 hl278_1
     replace p278 := eq_true p278
     replace q278 := eq_true q278
     refine start_ (n := 15) (S := fun w' => w'.cell? ⟨gb275, 0, none⟩ = some (.int .i64 a1_0) ∧ w'.cell? ⟨gb275, 1, none⟩ = some (.slice A1_1 l1_1.length c1_1) ∧ w'.cell? ⟨gb275, 2, none⟩ = some (.int .i64 a1_2) ∧ w'.cell? (ad278.add ((x5_2).toNat * 3)) = some (.int .i64 ((rd_T36 l0 x5_2).f0.f0)) ∧ w'.cell? ⟨(ad278.add ((x5_2).toNat * 3)).block, (ad278.add ((x5_2).toNat * 3)).off + 1, none⟩ = some (.slice A278_1 ((rd_T36 l0 x5_2).f0.f1).length c278_1) ∧ w'.cell? ⟨(ad278.add ((x5_2).toNat * 3)).block, (ad278.add ((x5_2).toNat * 3)).off + 2, none⟩ = some (.int .i64 ((rd_T36 l0 x5_2).f1))) (ds := []) #[N29,N29,N29,N29,N29,N29,N29,N29,N29,N29,N29,N29,N29,N29,N29] (by kernel_rfl) rfl rfl ⟨(blk_cell BK275.out 0).trans rfl, (blk_cell BK275.out 1).trans rfl, (blk_cell BK275.out 2).trans rfl, hx278_0, hx278_1, hx278_2⟩ (fun hHeld => ?_); refine with_tabW interlocutorref10_Add.tab4 interlocutorref10_Add.bits4 (fun HT_ HW_ => ?_)
     generalize wc.drew = w18 at HO_0 HO_276001 BK275 HB HL278_1 HR278_1 hx278_0 hx278_1 hx278_2 hHeld ⊢
     refine pure_ (i := 0) (N := some 24) (v := ?_) (a' := ?_) #[Y29,N29,N29,N29,N29,N29,N29,N29,N29,N29,N29,N29,N29,N29,N29] rfl rfl (any_of HT_.out (by kernel_rfl)) (fun _ _ _ h => h) (Or.inl ⟨by rfl, ?_⟩) ?_ ?_; rotate_left; (intro w'; go_simp; with_reducible rfl); rotate_left; (simp only [pq29]; rfl)
     refine pure_ (i := 1) (N := some 25) (v := ?_) (a' := ?_) #[Y29,Y29,N29,N29,N29,N29,N29,N29,N29,N29,N29,N29,N29,N29,N29] rfl rfl (any_of HT_.out (by kernel_rfl)) (fun _ _ _ h => h) (Or.inl ⟨by rfl, ?_⟩) ?_ ?_; rotate_left; (intro w'; go_simp; with_reducible rfl); rotate_left; (simp only [pq29]; rfl)
     refine pure_ (i := 2) (N := some 26) (v := ?_) (a' := ?_) #[Y29,Y29,Y29,N29,N29,N29,N29,N29,N29,N29,N29,N29,N29,N29,N29] rfl rfl (any_of HT_.out (by kernel_rfl)) (fun _ _ _ h => h) (Or.inl ⟨by rfl, ?_⟩) ?_ ?_; rotate_left; (intro w'; go_simp; with_reducible rfl); rotate_left; (simp only [pq29]; rfl)
     refine pure_ (i := 3) (N := some 27) (v := ?_) (a' := ?_) #[Y29,Y29,Y29,Y29,N29,N29,N29,N29,N29,N29,N29,N29,N29,N29,N29] rfl rfl (any_of HT_.out (by kernel_rfl)) (fun _ _ _ h => h) (Or.inl ⟨by rfl, ?_⟩) ?_ ?_; rotate_left; (intro w'; go_simp; with_reducible rfl); rotate_left; (simp only [pq29]; rfl)
     refine pure_ (i := 4) (N := some 28) (v := ?_) (a' := ?_) #[Y29,Y29,Y29,Y29,Y29,N29,N29,N29,N29,N29,N29,N29,N29,N29,N29] rfl rfl (any_of HT_.out (by kernel_rfl)) (fun _ _ _ h => h) (Or.inl ⟨by rfl, ?_⟩) ?_ ?_; rotate_left; (intro w'; go_simp; with_reducible rfl); rotate_left; (simp only [pq29]; rfl)
     refine pure_ (i := 5) (N := some 29) (v := ?_) (a' := ?_) #[Y29,Y29,Y29,Y29,Y29,Y29,N29,N29,N29,N29,N29,N29,N29,N29,N29] rfl rfl (any_of HT_.out (by kernel_rfl)) (fun _ _ _ h => h) (Or.inl ⟨by rfl, ?_⟩) ?_ ?_; rotate_left; (intro w'; go_simp; with_reducible rfl); rotate_left; (simp only [pq29]; rfl)
     refine pure_ (i := 6) (N := some 30) (v := ?_) (a' := ?_) #[Y29,Y29,Y29,Y29,Y29,Y29,Y29,N29,N29,N29,N29,N29,N29,N29,N29] rfl rfl (any_of HT_.out (by kernel_rfl)) (fun _ _ _ h => h) (Or.inl ⟨by rfl, ?_⟩) ?_ ?_; rotate_left; (intro w'; go_simp; with_reducible rfl); rotate_left; (simp only [pq29]; rfl)
     refine pure_ (i := 7) (N := some 31) (v := ?_) (a' := ?_) #[Y29,Y29,Y29,Y29,Y29,Y29,Y29,Y29,N29,N29,N29,N29,N29,N29,N29] rfl rfl (any_of HT_.out (by kernel_rfl)) (fun _ _ _ h => h) (Or.inl ⟨by rfl, ?_⟩) ?_ ?_; rotate_left; (intro w'; go_simp; with_reducible rfl); rotate_left; (simp only [pq29]; rfl)
     refine pure_ (i := 8) (N := some 32) (v := ?_) (a' := ?_) #[Y29,Y29,Y29,Y29,Y29,Y29,Y29,Y29,Y29,N29,N29,N29,N29,N29,N29] rfl rfl (any_of HT_.out (by kernel_rfl)) (fun _ _ _ h => h) (Or.inl ⟨by rfl, ?_⟩) ?_ ?_; rotate_left; (intro w'; go_simp; with_reducible rfl); rotate_left; (simp only [pq29]; rfl)
     refine pure_ (i := 10) (N := some 34) (v := ?_) (a' := ?_) #[Y29,Y29,Y29,Y29,Y29,Y29,Y29,Y29,Y29,N29,Y29,N29,N29,N29,N29] rfl rfl (any_of HT_.out (by kernel_rfl)) (fun _ _ _ h => h) (Or.inl ⟨by rfl, ?_⟩) ?_ ?_; rotate_left; (intro w'; go_simp; with_reducible rfl); rotate_left; (simp only [pq29]; rfl)
     refine take_ (i := 9) (N := some 33) (v := ?_) (a' := ?_) #[Y29,Y29,Y29,Y29,Y29,Y29,Y29,Y29,Y29,Y29,Y29,N29,N29,N29,N29] rfl rfl (take_ofW HT_.out HW_.out (by kernel_rfl)) (fun _ _ _ h => h) (Or.inl ⟨by rfl, ?_⟩) hHeld ?_ ?_
     rotate_left
     · rintro w' ⟨s0, s1, s2, s3, s4, s5⟩
       go_simp
       with_reducible rfl
     rotate_left
     · simp only [pq29]
       rfl
     refine take_ (i := 11) (N := some 35) (v := ?_) (a' := ?_) #[Y29,Y29,Y29,Y29,Y29,Y29,Y29,Y29,Y29,Y29,Y29,Y29,N29,N29,N29] rfl rfl (take_ofW HT_.out HW_.out (by kernel_rfl)) (fun _ _ _ h => h) (Or.inl ⟨by rfl, ?_⟩) hHeld ?_ ?_
     rotate_left
     · rintro w' ⟨s0, s1, s2, s3, s4, s5⟩
       go_simp
       with_reducible rfl
     rotate_left
     · simp only [pq29]
       rfl
     refine one_ (i := 12) (N := some 36) #[Y29,Y29,Y29,Y29,Y29,Y29,Y29,Y29,Y29,Y29,Y29,Y29,Y29,N29,N29] rfl rfl (one_of HT_.out (by kernel_rfl)) (by decide) (fun K hK => ?_)
     refine goes_ Tryd.func15 (by kernel_rfl) rfl #[.agg #[.int .i64 ((rd_T36 l0 x5_2).f0.f0), .slice A278_1 ((rd_T36 l0 x5_2).f0.f1).length c278_1], .agg #[.int .i64 a1_0, .slice A1_1 l1_1.length c1_1]] (by rfl) rfl rfl (by (try simp only [List.map_toArray, List.map_cons, List.map_nil]); first | done | rfl | (simp only [List.length_drop, List.length_take]; rfl)) ?_
     with_reducible refine (interlocutorref10_Cmp.calls kj2 ((rd_T36 l0 x5_2).f0.f0) _ _ ((rd_T36 l0 x5_2).f0.f1) a1_0 _ _ l1_1 t279 _ ?side1 ?side2 ?side3 ?side4 A17.out).mono ?_
     (case side1 => repeat (first | exact (by repeat (first | (with_reducible exact HR278_1.out) | (with_reducible refine Kd.C_alloc ?_ _) | (with_reducible refine Kd.C_drewN ?_ _) | (with_reducible refine Kd.C_drew ?_) | exact HR278_1.out)) | (with_reducible refine Kd.C_alloc ?_ _) | (with_reducible refine Kd.C_drewN ?_ _) | (with_reducible refine Kd.C_drew ?_)))
     (case side2 => exact HC278_1.out)
     (case side3 => repeat (first | exact (Kd.V_reads' HO_276001.out).2.2 | (with_reducible refine Kd.C_alloc ?_ _) | (with_reducible refine Kd.C_drewN ?_ _) | (with_reducible refine Kd.C_drew ?_)))
     (case side4 => exact (Kd.V_reads' HO_276001.out).2.1)
     rintro e w19 ⟨rfl, hb⟩
     have HS3_ := (hb.cell (World.block_lt_of_cell? _ _ (hHeld.2.2.2.1))).trans (hHeld.2.2.2.1)
     have HS4_ := (hb.cell (World.block_lt_of_cell? _ _ (hHeld.2.2.2.2.1))).trans (hHeld.2.2.2.2.1)
     have HS5_ := (hb.cell (World.block_lt_of_cell? _ _ (hHeld.2.2.2.2.2))).trans (hHeld.2.2.2.2.2)
     refine ⟨_, rfl, ?_⟩
     have n0_ := Aside0.mk (Kd.V_below (by exact vU HO_0.out) hb)
     have n1_ := Aside0.mk (Kd.V_below (by exact vU HO_276001.out) hb)
     have n2_ := Aside0.mk (Kd.V_below (by exact vU HL278_1.out) hb)
     have n3_ := Aside0.mk (blk_below (g := gb275) (o := .cells #[.int .i64 a1_0, .slice A1_1 l1_1.length c1_1, .int .i64 a1_2] 36 (0, 0)) (by (with_reducible repeat (first | refine blk_drewN ?_ _ | refine blk_drew ?_ | refine blk_alloc ?_ _)); exact BK275.out) hb)
     have n4_ := Aside0.mk (Kd.C_below (by repeat (first | (with_reducible exact HR278_1.out) | (with_reducible refine Kd.C_alloc ?_ _) | (with_reducible refine Kd.C_drewN ?_ _) | (with_reducible refine Kd.C_drew ?_) | exact HR278_1.out)) hb)
     have n5_ := Aside0.mk (below_step (by exact wS HB.out GE275.out) hb)
     clear HO_0 HO_276001 HL278_1 BK275 HR278_1 HB
     have HO_0 := n0_
     have HO_276001 := n1_
     have HL278_1 := n2_
     have BK275 := n3_
     have HR278_1 := n4_
     have HB := n5_
     clear n0_ n1_ n2_ n3_ n4_ n5_
     (try clear hb)
     (try clear hb2)
     (try clear hk)
     (try clear hi)
     refine hK.out _ _ ⟨(blk_cell BK275.out 0).trans rfl, (blk_cell BK275.out 1).trans rfl, (blk_cell BK275.out 2).trans rfl, HS3_, HS4_, HS5_⟩ (fun hHeld => ?_)
     clear hK K
     refine norm_ (a' := ?_) ?_ ?_
     rotate_left
     · show Act.put _ (some 36) _ = _
       simp only [pq29]
       rfl
     refine pure_ (i := 13) (N := some 37) (v := ?_) (a' := ?_) #[Y29,Y29,Y29,Y29,Y29,Y29,Y29,Y29,Y29,Y29,Y29,Y29,Y29,Y29,N29] rfl rfl (any_of HT_.out (by kernel_rfl)) (fun _ _ _ h => h) (Or.inl ⟨by rfl, ?_⟩) ?_ ?_; rotate_left; (intro w'; go_simp; with_reducible rfl); rotate_left; (simp only [pq29]; rfl)
     refine pure_ (i := 14) (N := some 38) (v := ?_) (a' := ?_) #[Y29,Y29,Y29,Y29,Y29,Y29,Y29,Y29,Y29,Y29,Y29,Y29,Y29,Y29,Y29] rfl rfl (any_of HT_.out (by kernel_rfl)) (fun _ _ _ h => h) (Or.inl ⟨by rfl, ?_⟩) ?_ ?_; rotate_left; (intro w'; go_simp; with_reducible rfl); rotate_left; (simp only [pq29]; rfl)
     refine done_ (done_of HT_.out (by kernel_rfl)) ?_
     try go_wp2
     go_meet
     case rel => exact ⟨_, ((t279 == 0)), (by first | rfl | (simp; done) | (simp [*]; done)), H', ⟨by have := HJ2.out; first | omega | exact Nat.le_refl _⟩, ⟨by exact vU HO_0.out⟩, ⟨by exact vU HO_276001.out⟩, ⟨by (with_reducible repeat (first | refine blk_drewN ?_ _ | refine blk_drew ?_ | refine blk_alloc ?_ _)); exact BK275.out⟩, ⟨by exact wS HB.out GE275.out⟩⟩
    case rest =>
     clear HC14
     try clear c1
     try clear c2
     try clear p2
     try clear q2
     try clear hx2
     try clear c5
     try clear c5b0
     try clear c6
     try clear c6b0
     try clear p6
     try clear c8
     try clear c8b0
     try clear c15
     try clear c15b0
     try clear c16
     try clear c16b0
     try clear hx276_0
     try clear hx276_1
     try clear hx276_2
     try clear hx278_0
     try clear hx278_1
     try clear hx278_2
     try clear p2
     try clear p276
     try clear p278
     try clear p6
     try clear q2
     try clear q276
     try clear q278
     obtain ⟨kq, x38_13, rfl, HA, HJ13, HO_0, HO_276001, BK275, HB⟩ := hcut
     cases kq with
     | zero => exact absurd HA.out (by simp [interlocutorref10_Add.j2])
     | succ kj13 =>
      have H := HA.out
      clear HA
      simp only [interlocutorref10_Add.j2] at H
      by_cases c21 : x38_13 = true
      · subst c21
        have H1 : (if 0 ≤ x5_2 then (if x5_2 < (l0.length : Int) then (if a1_2 ≥ ((rd_T36 l0 x5_2).f1) then (some l0) else ((some (([] : List (S36)) : List (S36))).bind fun y281 => (if y281.length + l0.length < 3518437208883 then ((some (y281 ++ l0 : List (S36))).bind fun y284 => (if x5_2 < (y284.length : Int) then (some (y284.set (x5_2 : Int).toNat (⟨(⟨(rd_T36 y284 x5_2).f0.f0, (rd_T36 y284 x5_2).f0.f1⟩ : S24), a1_2⟩ : S36))) else (none))) else (none)))) else (none)) else (none)) = some r := by rw [if_pos rfl] at H; exact H
        clear H
        have H := H1
        clear H1
        by_cases c22 : 0 ≤ x5_2
        rotate_left
        · rw [if_neg c22] at H
          exact absurd H (by simp)
        rw [if_pos c22] at H
        have c22b0 : decide (0 ≤ x5_2) = true := decide_eq_true c22
        clear c22
        by_cases c23 : x5_2 < (l0.length : Int)
        rotate_left
        · rw [if_neg c23] at H
          exact absurd H (by simp)
        rw [if_pos c23] at H
        have c23b0 : decide (x5_2 < (l0.length : Int)) = true := decide_eq_true c23
        clear c23
        by_cases c24 : a1_2 ≥ ((rd_T36 l0 x5_2).f1)
        · rw [if_pos c24] at H
          have c24b0 : decide (((rd_T36 l0 x5_2).f1) ≤ a1_2) = true := decide_eq_true c24
          clear c24
          obtain rfl := Option.some.inj H
          try go_wp2
          have n0_ := Aside0.mk (Kd.V_drew HO_0.out)
          have n1_ := Aside0.mk (Kd.V_drew HO_276001.out)
          have n2_ := Aside0.mk (blk_drew BK275.out)
          have n3_ := Aside0.mk (below_drew1 HB.out)
          clear HO_0 HO_276001 BK275 HB
          have HO_0 := n0_
          have HO_276001 := n1_
          have BK275 := n2_
          have HB := n3_
          clear n0_ n1_ n2_ n3_
          have p280 : 0 ≤ (x5_2 : Int) := of_decide_eq_true (by first | (with_reducible assumption) | assumption)
          have q280 : x5_2 < (l0.length : Int) := of_decide_eq_true (by first | (with_reducible assumption) | assumption)
          obtain ⟨ad280, A280_1, c280_1, e280, hx280_0, hx280_1, hx280_2, hl280_1, hi280_1⟩ := at_T36 (Kd.V_reads' HO_0.out).2.2 x5_2 p280 q280
          cases e280
          obtain ⟨ce280, hce280, hMe280, hcc280⟩ := Kd.V_get HO_0.out z36 x5_2 p280 (by first | exact q280 | exact of_decide_eq_true (by first | (with_reducible assumption) | assumption) | (have e_ := (Kd.V_reads' HO_0.out).1; omega))
          obtain ⟨ua280_1, uc280_1, rfl, ul280_1, ge280_1⟩ := k36_openF hMe280
          have hv280_1 := hcc280 1 _ rfl
          rw [add_field _ _ 1 (by omega)] at hv280_1
          replace hv280_1 := Option.some.inj (hv280_1.symm.trans hx280_1)
          injection hv280_1 with hva_ hvn_ hvc_
          rw [hva_] at ge280_1
          rw [hvc_] at ul280_1
          have HL280_1 := Aside0.mk (show Kd.V (Kd.int .i64) 3 _ w.heap.size _ _ ((rd_T36 l0 x5_2).f0.f1) from Kd.V_mk ul280_1 ge280_1)
          clear hva_ hvn_ hvc_ ge280_1 ul280_1 hcc280 hce280
          have HR280_1 := Aside0.mk hi280_1
          have HC280_1 := Aside0.mk hl280_1
          clear hi280_1 hl280_1
          replace p280 := eq_true p280
          replace q280 := eq_true q280
          refine start_ (n := 8) (S := fun w' => w'.cell? ⟨gb275, 0, none⟩ = some (.int .i64 a1_0) ∧ w'.cell? ⟨gb275, 1, none⟩ = some (.slice A1_1 l1_1.length c1_1) ∧ w'.cell? ⟨gb275, 2, none⟩ = some (.int .i64 a1_2) ∧ w'.cell? (ad280.add ((x5_2).toNat * 3)) = some (.int .i64 ((rd_T36 l0 x5_2).f0.f0)) ∧ w'.cell? ⟨(ad280.add ((x5_2).toNat * 3)).block, (ad280.add ((x5_2).toNat * 3)).off + 1, none⟩ = some (.slice A280_1 ((rd_T36 l0 x5_2).f0.f1).length c280_1) ∧ w'.cell? ⟨(ad280.add ((x5_2).toNat * 3)).block, (ad280.add ((x5_2).toNat * 3)).off + 2, none⟩ = some (.int .i64 ((rd_T36 l0 x5_2).f1))) (ds := []) #[false, false, false, false, false, false, false, false] (by kernel_rfl) rfl rfl ⟨(blk_cell BK275.out 0).trans rfl, (blk_cell BK275.out 1).trans rfl, (blk_cell BK275.out 2).trans rfl, hx280_0, hx280_1, hx280_2⟩ (fun hHeld => ?_); refine with_tabW interlocutorref10_Add.tab5 interlocutorref10_Add.bits5 (fun HT_ HW_ => ?_)
          generalize wc.drew = w25 at HO_0 HO_276001 BK275 HB HL280_1 HR280_1 hx280_0 hx280_1 hx280_2 hHeld ⊢
          refine pure_ (i := 0) (N := some 39) (v := ?_) (a' := ?_) #[true, false, false, false, false, false, false, false] rfl rfl (any_of HT_.out (by kernel_rfl)) (fun _ _ _ h => h) (Or.inl ⟨by rfl, ?_⟩) ?_ ?_; rotate_left; (intro w'; go_simp; with_reducible rfl); rotate_left; (simp only [pq29]; rfl)
          refine pure_ (i := 2) (N := some 41) (v := ?_) (a' := ?_) #[true, false, true, false, false, false, false, false] rfl rfl (any_of HT_.out (by kernel_rfl)) (fun _ _ _ h => h) (Or.inl ⟨by rfl, ?_⟩) ?_ ?_; rotate_left; (intro w'; go_simp; with_reducible rfl); rotate_left; (simp only [pq29]; rfl)
          refine pure_ (i := 3) (N := some 42) (v := ?_) (a' := ?_) #[true, false, true, true, false, false, false, false] rfl rfl (any_of HT_.out (by kernel_rfl)) (fun _ _ _ h => h) (Or.inl ⟨by rfl, ?_⟩) ?_ ?_; rotate_left; (intro w'; go_simp; with_reducible rfl); rotate_left; (simp only [pq29]; rfl)
          refine pure_ (i := 4) (N := some 43) (v := ?_) (a' := ?_) #[true, false, true, true, true, false, false, false] rfl rfl (any_of HT_.out (by kernel_rfl)) (fun _ _ _ h => h) (Or.inl ⟨by rfl, ?_⟩) ?_ ?_; rotate_left; (intro w'; go_simp; with_reducible rfl); rotate_left; (simp only [pq29]; rfl)
          refine pure_ (i := 5) (N := some 44) (v := ?_) (a' := ?_) #[true, false, true, true, true, true, false, false] rfl rfl (any_of HT_.out (by kernel_rfl)) (fun _ _ _ h => h) (Or.inl ⟨by rfl, ?_⟩) ?_ ?_; rotate_left; (intro w'; go_simp; with_reducible rfl); rotate_left; (simp only [pq29]; rfl)
          refine take_ (i := 1) (N := some 40) (v := ?_) (a' := ?_) #[true, true, true, true, true, true, false, false] rfl rfl (take_ofW HT_.out HW_.out (by kernel_rfl)) (fun _ _ _ h => h) (Or.inl ⟨by rfl, ?_⟩) hHeld ?_ ?_
          rotate_left
          · rintro w' ⟨s0, s1, s2, s3, s4, s5⟩
            go_simp
            with_reducible rfl
          rotate_left
          · simp only [pq29]
            rfl
          refine take_ (i := 6) (N := some 45) (v := ?_) (a' := ?_) #[true, true, true, true, true, true, true, false] rfl rfl (take_ofW HT_.out HW_.out (by kernel_rfl)) (fun _ _ _ h => h) (Or.inl ⟨by rfl, ?_⟩) hHeld ?_ ?_
          rotate_left
          · rintro w' ⟨s0, s1, s2, s3, s4, s5⟩
            go_simp
            with_reducible rfl
          rotate_left
          · simp only [pq29]
            rfl
          refine pure_ (i := 7) (N := some 46) (v := ?_) (a' := ?_) #[true, true, true, true, true, true, true, true] rfl rfl (any_of HT_.out (by kernel_rfl)) (fun _ _ _ h => h) (Or.inl ⟨by rfl, ?_⟩) ?_ ?_; rotate_left; (intro w'; go_simp; with_reducible rfl); rotate_left; (simp only [pq29]; rfl)
          refine done_ (done_of HT_.out (by kernel_rfl)) ?_
          try go_wp2
          go_ret
          exact ⟨_, by first | rfl | (simp [errW_none, errW_some] <;> rfl) | (simp [*, errW_none, errW_some] <;> rfl), by exact vU (Kd.V_mono HO_0.out (fun _ hk => hk.1)), by exact wS HB.out GE275.out⟩
        rw [if_neg c24] at H
        have c24b0 : decide (((rd_T36 l0 x5_2).f1) ≤ a1_2) = false := decide_eq_false c24
        clear c24
        obtain ⟨y281, hy281⟩ : ∃ y_ : List (S36), y_ = (([] : List (S36))) := ⟨_, rfl⟩
        replace H : (if y281.length + l0.length < 3518437208883 then ((some (y281 ++ l0 : List (S36))).bind fun y284 => (if x5_2 < (y284.length : Int) then (some (y284.set (x5_2 : Int).toNat (⟨(⟨(rd_T36 y284 x5_2).f0.f0, (rd_T36 y284 x5_2).f0.f1⟩ : S24), a1_2⟩ : S36))) else (none))) else (none)) = some r := by first | (rw [hy281]; with_reducible exact H) | (have H2_ := (Option.bind_some _ _).symm.trans H; rw [hy281]; with_reducible exact H2_) | (have H2_ := (Option.bind_some _ _).symm.trans H; with_reducible exact H2_) | with_reducible exact H | (rw [hy281]; exact H) | exact H
        have Ny281 := Aside0.mk hy281
        clear hy281
        by_cases c26 : y281.length + l0.length < 3518437208883
        rotate_left
        · rw [if_neg c26] at H
          exact absurd H (by simp)
        rw [if_pos c26] at H
        have LMc26 := Aside0.mk c26
        clear c26
        obtain ⟨y284, hy284⟩ : ∃ y_ : List (S36), y_ = (y281 ++ l0) := ⟨_, rfl⟩
        replace H : (if x5_2 < (y284.length : Int) then (some (y284.set (x5_2 : Int).toNat (⟨(⟨(rd_T36 y284 x5_2).f0.f0, (rd_T36 y284 x5_2).f0.f1⟩ : S24), a1_2⟩ : S36))) else (none)) = some r := by first | (rw [hy284]; with_reducible exact H) | (have H2_ := (Option.bind_some _ _).symm.trans H; rw [hy284]; with_reducible exact H2_) | (have H2_ := (Option.bind_some _ _).symm.trans H; with_reducible exact H2_) | with_reducible exact H | (rw [hy284]; exact H) | exact H
        have Ny284 := Aside0.mk hy284
        clear hy284
        by_cases c27 : x5_2 < (y284.length : Int)
        rotate_left
        · rw [if_neg c27] at H
          exact absurd H (by simp)
        rw [if_pos c27] at H
        have c27b0 : decide (x5_2 < (y284.length : Int)) = true := decide_eq_true c27
        clear c27
        obtain ⟨y287, hy287⟩ : ∃ y_ : List (S36), y_ = (y284.set (x5_2 : Int).toNat (⟨(⟨(rd_T36 y284 x5_2).f0.f0, (rd_T36 y284 x5_2).f0.f1⟩ : S24), a1_2⟩ : S36)) := ⟨_, rfl⟩
        replace H : (some y287) = some r := by first | (rw [hy287]; with_reducible exact H) | (have H2_ := (Option.bind_some _ _).symm.trans H; rw [hy287]; with_reducible exact H2_) | (have H2_ := (Option.bind_some _ _).symm.trans H; with_reducible exact H2_) | with_reducible exact H | (rw [hy287]; exact H) | exact H
        have Ny287 := Aside0.mk hy287
        clear hy287
        obtain rfl := Option.some.inj H
        try go_wp2
        have n0_ := Aside0.mk (Kd.V_drew HO_0.out)
        have n1_ := Aside0.mk (Kd.V_drew HO_276001.out)
        have n2_ := Aside0.mk (blk_drew BK275.out)
        have n3_ := Aside0.mk (below_drew1 HB.out)
        clear HO_0 HO_276001 BK275 HB
        have HO_0 := n0_
        have HO_276001 := n1_
        have BK275 := n2_
        have HB := n3_
        clear n0_ n1_ n2_ n3_
        have p280 : 0 ≤ (x5_2 : Int) := of_decide_eq_true (by first | (with_reducible assumption) | assumption)
        have q280 : x5_2 < (l0.length : Int) := of_decide_eq_true (by first | (with_reducible assumption) | assumption)
        obtain ⟨ad280, A280_1, c280_1, e280, hx280_0, hx280_1, hx280_2, hl280_1, hi280_1⟩ := at_T36 (Kd.V_reads' HO_0.out).2.2 x5_2 p280 q280
        cases e280
        obtain ⟨ce280, hce280, hMe280, hcc280⟩ := Kd.V_get HO_0.out z36 x5_2 p280 (by first | exact q280 | exact of_decide_eq_true (by first | (with_reducible assumption) | assumption) | (have e_ := (Kd.V_reads' HO_0.out).1; omega))
        obtain ⟨ua280_1, uc280_1, rfl, ul280_1, ge280_1⟩ := k36_openF hMe280
        have hv280_1 := hcc280 1 _ rfl
        rw [add_field _ _ 1 (by omega)] at hv280_1
        replace hv280_1 := Option.some.inj (hv280_1.symm.trans hx280_1)
        injection hv280_1 with hva_ hvn_ hvc_
        rw [hva_] at ge280_1
        rw [hvc_] at ul280_1
        have HL280_1 := Aside0.mk (show Kd.V (Kd.int .i64) 3 _ w.heap.size _ _ ((rd_T36 l0 x5_2).f0.f1) from Kd.V_mk ul280_1 ge280_1)
        clear hva_ hvn_ hvc_ ge280_1 ul280_1 hcc280 hce280
        have HR280_1 := Aside0.mk hi280_1
        have HC280_1 := Aside0.mk hl280_1
        clear hi280_1 hl280_1
        replace p280 := eq_true p280
        replace q280 := eq_true q280
        refine start_ (n := 8) (S := fun w' => w'.cell? ⟨gb275, 0, none⟩ = some (.int .i64 a1_0) ∧ w'.cell? ⟨gb275, 1, none⟩ = some (.slice A1_1 l1_1.length c1_1) ∧ w'.cell? ⟨gb275, 2, none⟩ = some (.int .i64 a1_2) ∧ w'.cell? (ad280.add ((x5_2).toNat * 3)) = some (.int .i64 ((rd_T36 l0 x5_2).f0.f0)) ∧ w'.cell? ⟨(ad280.add ((x5_2).toNat * 3)).block, (ad280.add ((x5_2).toNat * 3)).off + 1, none⟩ = some (.slice A280_1 ((rd_T36 l0 x5_2).f0.f1).length c280_1) ∧ w'.cell? ⟨(ad280.add ((x5_2).toNat * 3)).block, (ad280.add ((x5_2).toNat * 3)).off + 2, none⟩ = some (.int .i64 ((rd_T36 l0 x5_2).f1))) (ds := []) #[false, false, false, false, false, false, false, false] (by kernel_rfl) rfl rfl ⟨(blk_cell BK275.out 0).trans rfl, (blk_cell BK275.out 1).trans rfl, (blk_cell BK275.out 2).trans rfl, hx280_0, hx280_1, hx280_2⟩ (fun hHeld => ?_); refine with_tabW interlocutorref10_Add.tab5 interlocutorref10_Add.bits5 (fun HT_ HW_ => ?_)
        generalize wc.drew = w29 at HO_0 HO_276001 BK275 HB HL280_1 HR280_1 hx280_0 hx280_1 hx280_2 hHeld ⊢
        refine pure_ (i := 0) (N := some 39) (v := ?_) (a' := ?_) #[true, false, false, false, false, false, false, false] rfl rfl (any_of HT_.out (by kernel_rfl)) (fun _ _ _ h => h) (Or.inl ⟨by rfl, ?_⟩) ?_ ?_; rotate_left; (intro w'; go_simp; with_reducible rfl); rotate_left; (simp only [pq29]; rfl)
        refine pure_ (i := 2) (N := some 41) (v := ?_) (a' := ?_) #[true, false, true, false, false, false, false, false] rfl rfl (any_of HT_.out (by kernel_rfl)) (fun _ _ _ h => h) (Or.inl ⟨by rfl, ?_⟩) ?_ ?_; rotate_left; (intro w'; go_simp; with_reducible rfl); rotate_left; (simp only [pq29]; rfl)
        refine pure_ (i := 3) (N := some 42) (v := ?_) (a' := ?_) #[true, false, true, true, false, false, false, false] rfl rfl (any_of HT_.out (by kernel_rfl)) (fun _ _ _ h => h) (Or.inl ⟨by rfl, ?_⟩) ?_ ?_; rotate_left; (intro w'; go_simp; with_reducible rfl); rotate_left; (simp only [pq29]; rfl)
        refine pure_ (i := 4) (N := some 43) (v := ?_) (a' := ?_) #[true, false, true, true, true, false, false, false] rfl rfl (any_of HT_.out (by kernel_rfl)) (fun _ _ _ h => h) (Or.inl ⟨by rfl, ?_⟩) ?_ ?_; rotate_left; (intro w'; go_simp; with_reducible rfl); rotate_left; (simp only [pq29]; rfl)
        refine pure_ (i := 5) (N := some 44) (v := ?_) (a' := ?_) #[true, false, true, true, true, true, false, false] rfl rfl (any_of HT_.out (by kernel_rfl)) (fun _ _ _ h => h) (Or.inl ⟨by rfl, ?_⟩) ?_ ?_; rotate_left; (intro w'; go_simp; with_reducible rfl); rotate_left; (simp only [pq29]; rfl)
        refine take_ (i := 1) (N := some 40) (v := ?_) (a' := ?_) #[true, true, true, true, true, true, false, false] rfl rfl (take_ofW HT_.out HW_.out (by kernel_rfl)) (fun _ _ _ h => h) (Or.inl ⟨by rfl, ?_⟩) hHeld ?_ ?_
        rotate_left
        · rintro w' ⟨s0, s1, s2, s3, s4, s5⟩
          go_simp
          with_reducible rfl
        rotate_left
        · simp only [pq29]
          rfl
        refine take_ (i := 6) (N := some 45) (v := ?_) (a' := ?_) #[true, true, true, true, true, true, true, false] rfl rfl (take_ofW HT_.out HW_.out (by kernel_rfl)) (fun _ _ _ h => h) (Or.inl ⟨by rfl, ?_⟩) hHeld ?_ ?_
        rotate_left
        · rintro w' ⟨s0, s1, s2, s3, s4, s5⟩
          go_simp
          with_reducible rfl
        rotate_left
        · simp only [pq29]
          rfl
        refine pure_ (i := 7) (N := some 46) (v := ?_) (a' := ?_) #[true, true, true, true, true, true, true, true] rfl rfl (any_of HT_.out (by kernel_rfl)) (fun _ _ _ h => h) (Or.inl ⟨by rfl, ?_⟩) ?_ ?_; rotate_left; (intro w'; go_simp; with_reducible rfl); rotate_left; (simp only [pq29]; rfl)
        refine done_ (done_of HT_.out (by kernel_rfl)) ?_
        try go_wp2_with (first | ((with_reducible refine gate_dst (N := 48) rfl ?_); refine Kd.N_lit k36 _ 36 ?hg (N' := 48) ?hd (xs := ([] : List (S36))) (inner := []) (ok := (fun k_ => ((P0_ k_ ∨ P1_1_ k_) ∨ w.heap.size ≤ k_) ∧ k_ ≠ gb275)) (okp := (fun k_ => ((P0_ k_ ∨ P1_1_ k_) ∨ w.heap.size ≤ k_) ∧ k_ ≠ gb275)) ?hr ?hp (fun _ hk => hk) ((show ∀ k_, w29.heap.size ≤ k_ → (fun k_ => ((P0_ k_ ∨ P1_1_ k_) ∨ w.heap.size ≤ k_) ∧ k_ ≠ gb275) k_ from fun k_ hk => ⟨(.inr (Nat.le_trans (below_size (by exact wS HB.out GE275.out)) hk)), Kd.freshB (g := gb275) (o := .cells #[.int .i64 a1_0, .slice A1_1 l1_1.length c1_1, .int .i64 a1_2] 36 (0, 0)) (by (with_reducible repeat (first | refine blk_drewN ?_ _ | refine blk_drew ?_ | refine blk_alloc ?_ _)); exact BK275.out) k_ hk⟩) _ (Nat.le_refl _)) (Below.refl _ _) (Nat.le_refl _) (by simp) ?_; (case hd => rfl); (case hg => rfl); (case hr => first | (go_simp; done) | (go_simp; rfl)); (case hp => exact (Reps.none _ _)); intro v282 w30 ho31 hb hg_ hnew_; clear hg_ hnew_; (first | rw [← Ny281.out] at ho31 | (simp only [Int.reduceToNat] at ho31; rw [← Ny281.out] at ho31)); have n0_ := Aside0.mk (Kd.V_elder' (by exact vU HO_0.out) (Kd.N_base ho31) hb); have n1_ := Aside0.mk (Kd.V_elder' (by exact vU HO_276001.out) (Kd.N_base ho31) hb); have n2_ := Aside0.mk (Kd.V_elder' (by exact vU HL280_1.out) (Kd.N_base ho31) hb); have n3_ := Aside0.mk (Kd.N_lower ho31 (below_size (by exact wS HB.out GE275.out))); have n4_ := Aside0.mk (blk_below (g := gb275) (o := .cells #[.int .i64 a1_0, .slice A1_1 l1_1.length c1_1, .int .i64 a1_2] 36 (0, 0)) (by (with_reducible repeat (first | refine blk_drewN ?_ _ | refine blk_drew ?_ | refine blk_alloc ?_ _)); exact BK275.out) hb); have n5_ := Aside0.mk (Kd.C_below (by repeat (first | (with_reducible exact HR280_1.out) | (with_reducible refine Kd.C_alloc ?_ _) | (with_reducible refine Kd.C_drewN ?_ _) | (with_reducible refine Kd.C_drew ?_) | exact HR280_1.out)) hb); have n6_ := Aside0.mk (below_step (by exact wS HB.out GE275.out) hb); clear HO_0; clear HO_276001; clear HL280_1; clear BK275; clear HR280_1; clear HB; have HO_0 := n0_; have HO_276001 := n1_; have HL280_1 := n2_; have HO283 := n3_; have BK275 := n4_; have HR280_1 := n5_; have HB := n6_; clear n0_ n1_ n2_ n3_ n4_ n5_ n6_; clear hb ho31) | ((with_reducible refine gate_builtin (b := .append) (xs := #[.tmp 48, .tmp 49]) rfl ?_); at_builtin; refine Kd.N_append_rows k36 (w0 := w) w.heap.size rfl (.tmp 48) (.tmp 49) 28 36 (.agg #[(.int .i64 0), (.slice none 0 0), (.int .i64 0)]) 40 rfl Tryd.underlying28 info36 rfl (by decide) (by omega) v282 y281 l0 _ _ _ (fun k_ => ((P0_ k_ ∨ P1_1_ k_) ∨ w.heap.size ≤ k_) ∧ k_ ≠ gb275) (fun k_ => ((fun k_ => ((P0_ k_ ∨ P1_1_ k_) ∨ w.heap.size ≤ k_) ∧ k_ ≠ gb275)) k_ ∧ some k_ ≠ (v282 : Value).ownBlock) rfl rfl ?aO ?aR (fun _ hk => hk) ?aF ?aB ?aS ?aL ?_; (case aR => exact (by skip; exact Kd.V_F (Kd.V_mono (ok' := (fun k_ => ((fun k_ => ((P0_ k_ ∨ P1_1_ k_) ∨ w.heap.size ≤ k_) ∧ k_ ≠ gb275)) k_ ∧ some k_ ≠ (v282 : Value).ownBlock)) (HO_0.out) (fun k_ hk => ⟨⟨hk.1.1, hk.1.2⟩, hk.2⟩)))); (case aB => exact (by exact wS HB.out GE275.out)); (case aF => exact (fun k_ hk => ⟨(.inr (Nat.le_trans (below_size (by exact wS HB.out GE275.out)) hk)), Kd.freshB (g := gb275) (o := .cells #[.int .i64 a1_0, .slice A1_1 l1_1.length c1_1, .int .i64 a1_2] 36 (0, 0)) (by (with_reducible repeat (first | refine blk_drewN ?_ _ | refine blk_drew ?_ | refine blk_alloc ?_ _)); exact BK275.out) k_ hk⟩)); (case aO => exact (by exact nU HO283.out)); (case aS => exact (below_size (by exact wS HB.out GE275.out))); (case aL => have := LMc26.out; omega); intro v285 w32 ho hb hg hat; rw [← Ny284.out] at ho; have n0_ := Aside0.mk (Kd.V_afterv (ok := (fun k_ => ((P0_ k_ ∨ P1_1_ k_) ∨ w.heap.size ≤ k_) ∧ k_ ≠ gb275)) (by exact vU HO_0.out) hg hat); have n1_ := Aside0.mk (Kd.V_afterv (ok := (fun k_ => ((P0_ k_ ∨ P1_1_ k_) ∨ w.heap.size ≤ k_) ∧ k_ ≠ gb275)) (by exact vU HO_276001.out) hg hat); have n2_ := Aside0.mk (blk_grown (g := gb275) (o := .cells #[.int .i64 a1_0, .slice A1_1 l1_1.length c1_1, .int .i64 a1_2] 36 (0, 0)) (by (with_reducible repeat (first | refine blk_drewN ?_ _ | refine blk_drew ?_ | refine blk_alloc ?_ _)); exact BK275.out) hg (Kd.N_away HO283.out (fun _ hk => hk.2))); have n3_ := Aside0.mk (Kd.V_afterv (ok := (fun k_ => ((P0_ k_ ∨ P1_1_ k_) ∨ w.heap.size ≤ k_) ∧ k_ ≠ gb275)) (by exact vU HL280_1.out) hg hat); have n4_ := Aside0.mk (hb); have n5_ := Aside0.mk (ho); clear HO_0; clear HO_276001; clear BK275; clear HL280_1; clear HB; clear HO283; have HO_0 := n0_; have HO_276001 := n1_; have BK275 := n2_; have HL280_1 := n3_; have HB := n4_; have HO286 := n5_; clear n0_ n1_ n2_ n3_ n4_ n5_; clear ho hb hg hat; have hcz33_0 : w32.cell? ⟨gb275, 0, none⟩ = some (.int .i64 a1_0) := (blk_cell BK275.out 0).trans rfl; have hcz33_1 : w32.cell? ⟨gb275, 1, none⟩ = some (.slice A1_1 l1_1.length c1_1) := (blk_cell BK275.out 1).trans rfl; have hcz33_2 : w32.cell? ⟨gb275, 2, none⟩ = some (.int .i64 a1_2) := (blk_cell BK275.out 2).trans rfl; have hfz33_0 := blk_frozen BK275.out 0; have hfz33_1 := blk_frozen BK275.out 1; have hfz33_2 := blk_frozen BK275.out 2; have p28 : 0 ≤ (x5_2 : Int) := of_decide_eq_true (by first | (with_reducible assumption) | assumption); have q28 : (x5_2 : Int) < ((y284.length : Int) : Int) := of_decide_eq_true (by first | (with_reducible assumption) | assumption); obtain ⟨go28, co28, eo28, gb28, gl28, cl28, HG28⟩ := Kd.N_form HO286.out (by omega); (first | cases eo28 | (injection eo28 with ea_ en_ ec_; (first | subst ea_ | (injection ea_ with ea_; subst ea_)); subst ec_; clear en_)); have GB28 := Aside0.mk gb28; have GG28 := Aside0.mk HG28; clear gb28 gl28 HG28; obtain ⟨ce28, hcl28, hM28, hcc28, hfr28⟩ := Kd.N_elem HO286.out z36 (x5_2 : Int) p28 q28; obtain ⟨ua28_1, uc28_1, rfl, ul28_1, ge28_1⟩ := k36_openF hM28; have hx28_0 : w32.cell? ⟨go28, (x5_2 : Int).toNat * 3, none⟩ = some (.int .i64 ((rd_T36 y284 x5_2).f0.f0)) := hcc28 0 _ rfl; have hx28_1 : w32.cell? ⟨go28, (x5_2 : Int).toNat * 3 + 1, none⟩ = some (.slice ua28_1 ((rd_T36 y284 x5_2).f0.f1).length uc28_1) := hcc28 1 _ rfl; have hx28_2 : w32.cell? ⟨go28, (x5_2 : Int).toNat * 3 + 2, none⟩ = some (.int .i64 ((rd_T36 y284 x5_2).f1)) := hcc28 2 _ rfl; have hf28_0 : w32.frozen? ⟨go28, (x5_2 : Int).toNat * 3, none⟩ = false := hfr28 0; have hf28_1 : w32.frozen? ⟨go28, (x5_2 : Int).toNat * 3 + 1, none⟩ = false := hfr28 1; have hf28_2 : w32.frozen? ⟨go28, (x5_2 : Int).toNat * 3 + 2, none⟩ = false := hfr28 2; clear hcl28 hcc28 hfr28 hM28; replace p28 := eq_true p28; replace q28 := eq_true q28; have HX34 := Aside0.mk (show Kd.N k36 36 w32 w.heap.size (fun k_ => ((P0_ k_ ∨ P1_1_ k_) ∨ w.heap.size ≤ k_) ∧ k_ ≠ gb275) (.slice (some ⟨go28, 0, none⟩) y284.length co28) y284 from (by exact nU HO286.out)); obtain ⟨ce34, hcl34, hM34, hcc34, hfr34⟩ := Kd.N_elem HX34.out z36 (x5_2 : Int) (of_decide_eq_true (by first | (with_reducible assumption) | assumption)) (by have h_ : (x5_2 : Int) < ((y284.length : Int) : Int) := of_decide_eq_true (by first | (with_reducible assumption) | assumption); first | exact h_ | (have e_ := (Kd.N_reads' HO286.out).1; omega) | simpa using h_); obtain ⟨ua34_1, uc34_1, rfl, ul34_1, ge34_1⟩ := k36_openF hM34; have HP34 := Kd.N_seg HX34.out (x5_2 : Int) (of_decide_eq_true (by first | (with_reducible assumption) | assumption)) (by have h_ : (x5_2 : Int) < ((y284.length : Int) : Int) := of_decide_eq_true (by first | (with_reducible assumption) | assumption); first | exact h_ | (have e_ := (Kd.N_reads' HO286.out).1; omega) | simpa using h_) (seg := [.int .i64 a1_2]) (j := 2) hcl34 hcc34 (show 3 ≤ 3 from by decide) (x' := (⟨(⟨(rd_T36 y284 x5_2).f0.f0, (rd_T36 y284 x5_2).f0.f1⟩ : S24), a1_2⟩ : S36)) (k36_mkF _ _ (⟨(⟨(rd_T36 y284 x5_2).f0.f0, (rd_T36 y284 x5_2).f0.f1⟩ : S24), a1_2⟩ : S36) ul34_1 ge34_1) (fun _ hk => hk); have hx34_2 := hcc34 2 _ rfl; (try simp only [show (k36).sz = 3 from rfl, Nat.mul_one, Nat.add_zero] at hx34_2); have hf34_2 := hfr34 2; (try simp only [show (k36).sz = 3 from rfl, Nat.mul_one, Nat.add_zero] at hf34_2); clear hcl34 hcc34 hfr34 hM34) | ((with_reducible refine gate_store (t := 3) (p := 56) rfl ?_); refine store_event (t := 3) (p := 56) (v := ?vo_w35) (w1 := (w32.setCell ⟨go28, (x5_2 : Int).toNat * 3 + 2, none⟩ (.int .i64 a1_2))) ?hg ?ho ?hn ?hr ?_; (case ho => rfl); (case hg => rfl); (case hn => rfl); (case hr => first | (go_simp; done) | (go_simp; rfl)); intro w35 hw; have hg : w32.grownBy w35 (some go28) := (by rw [hw]; exact HP34.2); have hp_ : Kd.N k36 36 w35 w.heap.size (fun k_ => ((P0_ k_ ∨ P1_1_ k_) ∨ w.heap.size ≤ k_) ∧ k_ ≠ gb275) (.slice (some ⟨go28, 0, none⟩) y284.length co28) y287 := (by rw [hw, Ny287.out]; exact HP34.1); clear HP34; have n0_ := Aside0.mk (Kd.V_afterv (v := (.slice (some ⟨go28, 0, none⟩) y284.length co28)) (v1 := (.slice (some ⟨go28, 0, none⟩) y284.length co28)) (ok := (fun k_ => ((P0_ k_ ∨ P1_1_ k_) ∨ w.heap.size ≤ k_) ∧ k_ ≠ gb275)) (by exact vU HO_0.out) hg (.inl rfl)); have n1_ := Aside0.mk (Kd.V_afterv (v := (.slice (some ⟨go28, 0, none⟩) y284.length co28)) (v1 := (.slice (some ⟨go28, 0, none⟩) y284.length co28)) (ok := (fun k_ => ((P0_ k_ ∨ P1_1_ k_) ∨ w.heap.size ≤ k_) ∧ k_ ≠ gb275)) (by exact vU HO_276001.out) hg (.inl rfl)); have n2_ := Aside0.mk (blk_grown (g := gb275) (o := .cells #[.int .i64 a1_0, .slice A1_1 l1_1.length c1_1, .int .i64 a1_2] 36 (0, 0)) (by (with_reducible repeat (first | refine blk_drewN ?_ _ | refine blk_drew ?_ | refine blk_alloc ?_ _)); exact BK275.out) hg (Kd.N_away HO286.out (fun _ hk => hk.2))); have n3_ := Aside0.mk (Kd.V_afterv (v := (.slice (some ⟨go28, 0, none⟩) y284.length co28)) (v1 := (.slice (some ⟨go28, 0, none⟩) y284.length co28)) (ok := (fun k_ => ((P0_ k_ ∨ P1_1_ k_) ∨ w.heap.size ≤ k_) ∧ k_ ≠ gb275)) (by exact vU HL280_1.out) hg (.inl rfl)); have n4_ := Aside0.mk (hp_); have n5_ := Aside0.mk ((by rw [hw]; exact below_set (HB.out) GB28.out : Below w.heap.size w w35)); clear HO_0; clear HO_276001; clear BK275; clear HL280_1; clear HO286; clear HB; have HO_0 := n0_; have HO_276001 := n1_; have BK275 := n2_; have HL280_1 := n3_; have HO286 := n4_; have HB := n5_; clear n0_ n1_ n2_ n3_ n4_ n5_; clear hg hw hp_))
        go_ret
        exact ⟨_, by first | rfl | (simp [errW_none, errW_some] <;> rfl) | (simp [*, errW_none, errW_some] <;> rfl), Kd.N_V (by exact nU (Kd.N_mono HO286.out (fun _ hk => hk.1))), by exact wS HB.out GE275.out⟩
      replace c21 := Bool.eq_false_iff.mpr c21
      subst c21
      have H1 : ((some (([] : List (S36)) : List (S36))).bind fun y288 => (if 0 ≤ x5_2 then (if x5_2 ≤ (l0.length : Int) then ((some (l0.take (x5_2 : Int).toNat : List (S36))).bind fun y291 => (if y288.length + y291.length < 3518437208883 then ((some (y288 ++ y291 : List (S36))).bind fun y296 => ((some (([(⟨(⟨a1_0, l1_1⟩ : S24), a1_2⟩ : S36)] : List (S36)) : List (S36))).bind fun y299 => (if y296.length + y299.length < 3518437208883 then ((some (y296 ++ y299 : List (S36))).bind fun y302 => ((some (l0.drop (x5_2 : Int).toNat : List (S36))).bind fun y305 => (if y302.length + y305.length < 3518437208883 then (some (y302 ++ y305)) else (none)))) else (none)))) else (none))) else (none)) else (none))) = some r := by rw [if_neg (show ¬ (false = true) by decide)] at H; exact H
      clear H
      have H := H1
      clear H1
      obtain ⟨y288, hy288⟩ : ∃ y_ : List (S36), y_ = (([] : List (S36))) := ⟨_, rfl⟩
      replace H : (if 0 ≤ x5_2 then (if x5_2 ≤ (l0.length : Int) then ((some (l0.take (x5_2 : Int).toNat : List (S36))).bind fun y291 => (if y288.length + y291.length < 3518437208883 then ((some (y288 ++ y291 : List (S36))).bind fun y296 => ((some (([(⟨(⟨a1_0, l1_1⟩ : S24), a1_2⟩ : S36)] : List (S36)) : List (S36))).bind fun y299 => (if y296.length + y299.length < 3518437208883 then ((some (y296 ++ y299 : List (S36))).bind fun y302 => ((some (l0.drop (x5_2 : Int).toNat : List (S36))).bind fun y305 => (if y302.length + y305.length < 3518437208883 then (some (y302 ++ y305)) else (none)))) else (none)))) else (none))) else (none)) else (none)) = some r := by first | (rw [hy288]; with_reducible exact H) | (have H2_ := (Option.bind_some _ _).symm.trans H; rw [hy288]; with_reducible exact H2_) | (have H2_ := (Option.bind_some _ _).symm.trans H; with_reducible exact H2_) | with_reducible exact H | (rw [hy288]; exact H) | exact H
      have Ny288 := Aside0.mk hy288
      clear hy288
      by_cases c36 : 0 ≤ x5_2
      rotate_left
      · rw [if_neg c36] at H
        exact absurd H (by simp)
      rw [if_pos c36] at H
      have c36b0 := eq_true c36
      have c36b1 : decide (0 ≤ x5_2) = true := decide_eq_true c36
      clear c36
      by_cases c37 : x5_2 ≤ (l0.length : Int)
      rotate_left
      · rw [if_neg c37] at H
        exact absurd H (by simp)
      rw [if_pos c37] at H
      have c37b0 := eq_true c37
      have c37b1 : decide (x5_2 ≤ (l0.length : Int)) = true := decide_eq_true c37
      clear c37
      obtain ⟨y291, hy291⟩ : ∃ y_ : List (S36), y_ = (l0.take (x5_2 : Int).toNat) := ⟨_, rfl⟩
      replace H : (if y288.length + y291.length < 3518437208883 then ((some (y288 ++ y291 : List (S36))).bind fun y296 => ((some (([(⟨(⟨a1_0, l1_1⟩ : S24), a1_2⟩ : S36)] : List (S36)) : List (S36))).bind fun y299 => (if y296.length + y299.length < 3518437208883 then ((some (y296 ++ y299 : List (S36))).bind fun y302 => ((some (l0.drop (x5_2 : Int).toNat : List (S36))).bind fun y305 => (if y302.length + y305.length < 3518437208883 then (some (y302 ++ y305)) else (none)))) else (none)))) else (none)) = some r := by first | (rw [hy291]; with_reducible exact H) | (have H2_ := (Option.bind_some _ _).symm.trans H; rw [hy291]; with_reducible exact H2_) | (have H2_ := (Option.bind_some _ _).symm.trans H; with_reducible exact H2_) | with_reducible exact H | (rw [hy291]; exact H) | exact H
      have Ny291 := Aside0.mk hy291
      clear hy291
      by_cases c38 : y288.length + y291.length < 3518437208883
      rotate_left
      · rw [if_neg c38] at H
        exact absurd H (by simp)
      rw [if_pos c38] at H
      have LMc38 := Aside0.mk c38
      clear c38
      obtain ⟨y296, hy296⟩ : ∃ y_ : List (S36), y_ = (y288 ++ y291) := ⟨_, rfl⟩
      replace H : ((some (([(⟨(⟨a1_0, l1_1⟩ : S24), a1_2⟩ : S36)] : List (S36)) : List (S36))).bind fun y299 => (if y296.length + y299.length < 3518437208883 then ((some (y296 ++ y299 : List (S36))).bind fun y302 => ((some (l0.drop (x5_2 : Int).toNat : List (S36))).bind fun y305 => (if y302.length + y305.length < 3518437208883 then (some (y302 ++ y305)) else (none)))) else (none))) = some r := by first | (rw [hy296]; with_reducible exact H) | (have H2_ := (Option.bind_some _ _).symm.trans H; rw [hy296]; with_reducible exact H2_) | (have H2_ := (Option.bind_some _ _).symm.trans H; with_reducible exact H2_) | with_reducible exact H | (rw [hy296]; exact H) | exact H
      have Ny296 := Aside0.mk hy296
      clear hy296
      obtain ⟨y299, hy299⟩ : ∃ y_ : List (S36), y_ = (([(⟨(⟨a1_0, l1_1⟩ : S24), a1_2⟩ : S36)] : List (S36))) := ⟨_, rfl⟩
      replace H : (if y296.length + y299.length < 3518437208883 then ((some (y296 ++ y299 : List (S36))).bind fun y302 => ((some (l0.drop (x5_2 : Int).toNat : List (S36))).bind fun y305 => (if y302.length + y305.length < 3518437208883 then (some (y302 ++ y305)) else (none)))) else (none)) = some r := by first | (rw [hy299]; with_reducible exact H) | (have H2_ := (Option.bind_some _ _).symm.trans H; rw [hy299]; with_reducible exact H2_) | (have H2_ := (Option.bind_some _ _).symm.trans H; with_reducible exact H2_) | with_reducible exact H | (rw [hy299]; exact H) | exact H
      have Ny299 := Aside0.mk hy299
      clear hy299
      by_cases c39 : y296.length + y299.length < 3518437208883
      rotate_left
      · rw [if_neg c39] at H
        exact absurd H (by simp)
      rw [if_pos c39] at H
      have LMc39 := Aside0.mk c39
      clear c39
      obtain ⟨y302, hy302⟩ : ∃ y_ : List (S36), y_ = (y296 ++ y299) := ⟨_, rfl⟩
      replace H : ((some (l0.drop (x5_2 : Int).toNat : List (S36))).bind fun y305 => (if y302.length + y305.length < 3518437208883 then (some (y302 ++ y305)) else (none))) = some r := by first | (rw [hy302]; with_reducible exact H) | (have H2_ := (Option.bind_some _ _).symm.trans H; rw [hy302]; with_reducible exact H2_) | (have H2_ := (Option.bind_some _ _).symm.trans H; with_reducible exact H2_) | with_reducible exact H | (rw [hy302]; exact H) | exact H
      have Ny302 := Aside0.mk hy302
      clear hy302
      have c40b0 := eq_true (of_decide_eq_true (by first | (with_reducible assumption) | assumption) : 0 ≤ x5_2)
      have c41b0 := eq_true (of_decide_eq_true (by first | (with_reducible assumption) | assumption) : x5_2 ≤ (l0.length : Int))
      obtain ⟨y305, hy305⟩ : ∃ y_ : List (S36), y_ = (l0.drop (x5_2 : Int).toNat) := ⟨_, rfl⟩
      replace H : (if y302.length + y305.length < 3518437208883 then (some (y302 ++ y305)) else (none)) = some r := by first | (rw [hy305]; with_reducible exact H) | (have H2_ := (Option.bind_some _ _).symm.trans H; rw [hy305]; with_reducible exact H2_) | (have H2_ := (Option.bind_some _ _).symm.trans H; with_reducible exact H2_) | with_reducible exact H | (rw [hy305]; exact H) | exact H
      have Ny305 := Aside0.mk hy305
      clear hy305
      by_cases c42 : y302.length + y305.length < 3518437208883
      rotate_left
      · rw [if_neg c42] at H
        exact absurd H (by simp)
      rw [if_pos c42] at H
      have LMc42 := Aside0.mk c42
      clear c42
      obtain ⟨y310, hy310⟩ : ∃ y_ : List (S36), y_ = (y302 ++ y305) := ⟨_, rfl⟩
      replace H : (some y310) = some r := by first | (rw [hy310]; with_reducible exact H) | (have H2_ := (Option.bind_some _ _).symm.trans H; rw [hy310]; with_reducible exact H2_) | (have H2_ := (Option.bind_some _ _).symm.trans H; with_reducible exact H2_) | with_reducible exact H | (rw [hy310]; exact H) | exact H
      have Ny310 := Aside0.mk hy310
      clear hy310
      obtain rfl := Option.some.inj H
      try go_wp2
      have n0_ := Aside0.mk (Kd.V_drew HO_0.out)
      have n1_ := Aside0.mk (Kd.V_drew HO_276001.out)
      have n2_ := Aside0.mk (blk_drew BK275.out)
      have n3_ := Aside0.mk (below_drew1 HB.out)
      clear HO_0 HO_276001 BK275 HB
      have HO_0 := n0_
      have HO_276001 := n1_
      have BK275 := n2_
      have HB := n3_
      clear n0_ n1_ n2_ n3_
      have q44 : (x5_2 : Int) ≤ ((l0.length : Int) : Int) := of_decide_eq_true (by first | (with_reducible assumption) | assumption)
      obtain ⟨i044, hi044, _, hsz44, _⟩ := info_parts info36
      have hroom44 : l0.length ≤ c0 := (Kd.V_reads' HO_0.out).2.1
      have hC44 : Kd.F k36 _ _ A0 l0.length l0 := (Kd.V_at (base := w.heap.size) HO_0.out).2.2
      have hcut44 := cut_to (P := Tryd.prog) 28 36 .i64 Tryd.underlying28 hi044 A0 l0.length c0 x5_2 (of_decide_eq_true (by first | (with_reducible assumption) | assumption)) q44 hroom44
      have hr44 := Kd.F_take (m := (x5_2 : Int).toNat) hC44 (by omega)
      have hy44 : y291.length = (x5_2 : Int).toNat := (by rw [Ny291.out, List.length_take]; omega)
      rw [← Ny291.out] at hr44
      rw [← hy44] at hcut44
      have HO295 := Aside0.mk (show Kd.V k36 36 _ w.heap.size _ (.slice A0 y291.length c0) y291 from Kd.V_mk (by omega) hr44)
      have HC295 := Aside0.mk (show y291.length ≤ c0 from by omega)
      clear hr44 hC44 hroom44 hi044 hsz44
      have KY44 := Aside0.mk hy44
      clear hy44
      replace q44 := eq_true q44
      have q45 : (x5_2 : Int) ≤ ((l0.length : Int) : Int) := of_decide_eq_true (by first | (with_reducible assumption) | assumption)
      obtain ⟨i045, hi045, _, hsz45, _⟩ := info_parts info36
      have hroom45 : l0.length ≤ c0 := (Kd.V_reads' HO_0.out).2.1
      have hC45 : Kd.F k36 _ _ A0 l0.length l0 := (Kd.V_at (base := w.heap.size) HO_0.out).2.2
      have q045 : (0 : Int) ≤ (x5_2 : Int) := of_decide_eq_true (by first | (with_reducible assumption) | assumption)
      have hcut45 := cut_from (P := Tryd.prog) 28 36 .i64 Tryd.underlying28 hi045 3 hsz45 A0 l0.length c0 x5_2 q045 q45
      have hr45 := Kd.F_cut (m := (x5_2 : Int).toNat) (c := c0) hC45 (by omega) hroom45
      obtain ⟨A45, hA45⟩ : ∃ A1, A1 = (if c0 = (x5_2 : Int).toNat then A0 else (A0 : Option Addr).map (·.add ((x5_2 : Int).toNat * 3))) := ⟨_, rfl⟩
      obtain ⟨c45, hc45⟩ : ∃ c1, c1 = c0 - (x5_2 : Int).toNat := ⟨_, rfl⟩
      have hy45 : y305.length = l0.length - (x5_2 : Int).toNat := (by rw [Ny305.out, List.length_drop] <;> omega)
      rw [show (l0).drop (x5_2 : Int).toNat = y305 from Ny305.out.symm] at hr45
      replace hr45 : Kd.F k36 _ _ A45 y305.length y305 := (by rw [hA45]; exact hr45)
      rw [← hy45, ← hA45, ← hc45] at hcut45
      have HO309 := Aside0.mk (show Kd.V k36 36 _ w.heap.size _ (.slice A45 y305.length c45) y305 from Kd.V_mk (by rw [hy45, hc45]; exact Nat.sub_le_sub_right hroom45 _) hr45)
      have HC309 := Aside0.mk (show y305.length ≤ c45 from by rw [hy45, hc45]; exact Nat.sub_le_sub_right hroom45 _)
      clear hr45 hC45 hroom45 hi045 hsz45 hc45
      have KY45 := Aside0.mk hy45
      have KA45 := Aside0.mk hA45
      clear hy45 hA45
      replace q45 := eq_true q45
      refine start_ (n := 13) (S := fun w' => w'.cell? ⟨gb275, 0, none⟩ = some (.int .i64 a1_0) ∧ w'.cell? ⟨gb275, 1, none⟩ = some (.slice A1_1 l1_1.length c1_1) ∧ w'.cell? ⟨gb275, 2, none⟩ = some (.int .i64 a1_2)) (ds := []) #[N29,N29,N29,N29,N29,N29,N29,N29,N29,N29,N29,N29,N29] (by kernel_rfl) rfl rfl ⟨(blk_cell BK275.out 0).trans rfl, (blk_cell BK275.out 1).trans rfl, (blk_cell BK275.out 2).trans rfl⟩ (fun hHeld => ?_); refine with_tabW interlocutorref10_Add.tab10 interlocutorref10_Add.bits10 (fun HT_ HW_ => ?_)
      generalize wc.drew = w43 at HO_0 HO_276001 BK275 HB HO295 HO309 hHeld ⊢
      refine pure_ (i := 1) (N := some 59) (v := ?_) (a' := ?_) #[N29,Y29,N29,N29,N29,N29,N29,N29,N29,N29,N29,N29,N29] rfl rfl (any_of HT_.out (by kernel_rfl)) (fun _ _ _ h => h) (Or.inl ⟨by rfl, ?_⟩) ?_ ?_; rotate_left; (intro w'; go_simp; with_reducible rfl); rotate_left; (simp only [pq29]; rfl)
      refine pure_ (i := 2) (N := some 60) (v := ?_) (a' := ?_) #[N29,Y29,Y29,N29,N29,N29,N29,N29,N29,N29,N29,N29,N29] rfl rfl (any_of HT_.out (by kernel_rfl)) (fun _ _ _ h => h) (Or.inl ⟨by rfl, ?_⟩) ?_ ?_; rotate_left; (intro w'; go_simp; with_reducible rfl); rotate_left; (simp only [pq29]; rfl)
      refine pure_ (i := 3) (N := some 61) (v := ?_) (a' := ?_) #[N29,Y29,Y29,Y29,N29,N29,N29,N29,N29,N29,N29,N29,N29] rfl rfl (any_of HT_.out (by kernel_rfl)) (fun _ _ _ h => h) (Or.inl ⟨by rfl, ?_⟩) ?_ ?_; rotate_left; (intro w'; go_simp; with_reducible rfl); rotate_left; (simp only [pq29]; rfl)
      refine pure_ (i := 8) (N := some 66) (v := ?_) (a' := ?_) #[N29,Y29,Y29,Y29,N29,N29,N29,N29,Y29,N29,N29,N29,N29] rfl rfl (any_of HT_.out (by kernel_rfl)) (fun _ _ _ h => h) (Or.inl ⟨by rfl, ?_⟩) ?_ ?_; rotate_left; (intro w'; go_simp; with_reducible rfl); rotate_left; (simp only [pq29]; rfl)
      refine pure_ (i := 9) (N := some 67) (v := ?_) (a' := ?_) #[N29,Y29,Y29,Y29,N29,N29,N29,N29,Y29,Y29,N29,N29,N29] rfl rfl (any_of HT_.out (by kernel_rfl)) (fun _ _ _ h => h) (Or.inl ⟨by rfl, ?_⟩) ?_ ?_; rotate_left; (intro w'; go_simp; with_reducible rfl); rotate_left; (simp only [pq29]; rfl)
      refine pure_ (i := 10) (N := some 68) (v := ?_) (a' := ?_) #[N29,Y29,Y29,Y29,N29,N29,N29,N29,Y29,Y29,Y29,N29,N29] rfl rfl (any_of HT_.out (by kernel_rfl)) (fun _ _ _ h => h) (Or.inl ⟨by rfl, ?_⟩) ?_ ?_; rotate_left; (intro w'; go_simp; with_reducible rfl); rotate_left; (simp only [pq29]; rfl)
      refine take_ (i := 5) (N := some 63) (v := ?_) (a' := ?_) #[N29,Y29,Y29,Y29,N29,Y29,N29,N29,Y29,Y29,Y29,N29,N29] rfl rfl (take_ofW HT_.out HW_.out (by kernel_rfl)) (fun _ _ _ h => h) (Or.inl ⟨by rfl, ?_⟩) hHeld ?_ ?_
      rotate_left
      · rintro w' ⟨s0, s1, s2⟩
        go_simp
        with_reducible rfl
      rotate_left
      · simp only [pq29]
        rfl
      refine join_ (σ := Value × Value × Value) 3 #[Y29,Y29,Y29,Y29,Y29,Y29,Y29,N29,Y29,Y29,Y29,N29,N29] (fun s_ => [(58, s_.1), (62, s_.2.1), (64, s_.2.2)]) (fun s_ w' => (w'.cell? ⟨gb275, 0, none⟩ = some (.int .i64 a1_0) ∧ w'.cell? ⟨gb275, 1, none⟩ = some (.slice A1_1 l1_1.length c1_1) ∧ w'.cell? ⟨gb275, 2, none⟩ = some (.int .i64 a1_2)) ∧ (Kd.V k36 36 w' w.heap.size (fun k_ => ((P0_ k_ ∨ P1_1_ k_) ∨ w.heap.size ≤ k_) ∧ some k_ ≠ (s_.2.1 : Value).ownBlock ∧ some k_ ≠ (s_.2.2 : Value).ownBlock ∧ k_ ≠ gb275) (.slice A0 y291.length c0) y291) ∧ (Kd.N k36 36 w' w.heap.size (fun k_ => ((P0_ k_ ∨ P1_1_ k_) ∨ w.heap.size ≤ k_) ∧ some k_ ≠ (s_.2.2 : Value).ownBlock ∧ k_ ≠ gb275) s_.2.1 y296) ∧ (Kd.N k36 36 w' w.heap.size (fun k_ => ((P0_ k_ ∨ P1_1_ k_) ∨ w.heap.size ≤ k_) ∧ some k_ ≠ (s_.2.1 : Value).ownBlock ∧ k_ ≠ gb275) s_.2.2 y299) ∧ (Kd.V k36 36 w' w.heap.size (fun k_ => ((P0_ k_ ∨ P1_1_ k_) ∨ w.heap.size ≤ k_) ∧ some k_ ≠ (s_.2.1 : Value).ownBlock ∧ some k_ ≠ (s_.2.2 : Value).ownBlock ∧ k_ ≠ gb275) (.slice A45 y305.length c45) y305) ∧ (Kd.V k36 36 w' w.heap.size (fun k_ => ((P0_ k_ ∨ P1_1_ k_) ∨ w.heap.size ≤ k_) ∧ some k_ ≠ (s_.2.1 : Value).ownBlock ∧ some k_ ≠ (s_.2.2 : Value).ownBlock ∧ k_ ≠ gb275) (.slice A0 l0.length c0) l0) ∧ (Kd.V (Kd.int .i64) 3 w' w.heap.size (fun k_ => ((P0_ k_ ∨ P1_1_ k_) ∨ w.heap.size ≤ k_) ∧ some k_ ≠ (s_.2.1 : Value).ownBlock ∧ some k_ ≠ (s_.2.2 : Value).ownBlock ∧ k_ ≠ gb275) (.slice A1_1 l1_1.length c1_1) l1_1) ∧ (w'.heap[gb275]? = some (.cells #[.int .i64 a1_0, .slice A1_1 l1_1.length c1_1, .int .i64 a1_2] 36 (0, 0))) ∧ (Below w.heap.size w w')) ?_ ?_
      rotate_left
      · intro hCont
        refine two_ (i := 0) (j := 6) (Ni := some 58) (Nj := some 64) #[Y29,Y29,Y29,Y29,N29,Y29,N29,N29,Y29,Y29,Y29,N29,N29] #[N29,Y29,Y29,Y29,N29,Y29,Y29,N29,Y29,Y29,Y29,N29,N29] rfl rfl rfl rfl (two_of HT_.out (by kernel_rfl)) (by decide) (by decide) (fun K hK => ?_) (fun K hK => ?_)
        rotate_left
        · skip
          refine Kd.N_lit_step k36 _ 36 ?hg (N' := 64) ?hd (xs := ([(⟨(⟨a1_0, l1_1⟩ : S24), a1_2⟩ : S36)] : List (S36))) (inner := [.int .i64 a1_0, .slice A1_1 l1_1.length c1_1, .int .i64 a1_2]) (ok := (fun k_ => ((P0_ k_ ∨ P1_1_ k_) ∨ w.heap.size ≤ k_) ∧ k_ ≠ gb275)) (okp := (fun k_ => ((P0_ k_ ∨ P1_1_ k_) ∨ w.heap.size ≤ k_) ∧ k_ ≠ gb275)) ?hr ?hp (fun _ hk => hk) ((show ∀ k_, w43.heap.size ≤ k_ → (fun k_ => ((P0_ k_ ∨ P1_1_ k_) ∨ w.heap.size ≤ k_) ∧ k_ ≠ gb275) k_ from fun k_ hk => ⟨(.inr (Nat.le_trans (below_size (by exact wS HB.out GE275.out)) hk)), Kd.freshB (g := gb275) (o := .cells #[.int .i64 a1_0, .slice A1_1 l1_1.length c1_1, .int .i64 a1_2] 36 (0, 0)) (by (with_reducible repeat (first | refine blk_drewN ?_ _ | refine blk_drew ?_ | refine blk_alloc ?_ _)); exact BK275.out) k_ hk⟩) _ (Nat.le_refl _)) (Below.refl _ _) (Nat.le_refl _) (by simp) ?_; (case hd => rfl); (case hg => rfl); (case hr => first | (go_simp; done) | (go_simp; rfl)); (case hp => exact (Reps.c3 (show Kd.FK k36 _ _ (⟨(⟨a1_0, l1_1⟩ : S24), a1_2⟩ : S36) [.int .i64 a1_0, .slice A1_1 l1_1.length c1_1, .int .i64 a1_2] from (k36_mkF _ _ (⟨(⟨a1_0, l1_1⟩ : S24), a1_2⟩ : S36) (Kd.V_reads' (Kd.V_mono (ok' := (fun k_ => ((P0_ k_ ∨ P1_1_ k_) ∨ w.heap.size ≤ k_) ∧ k_ ≠ gb275)) (HO_276001.out) (fun k_ hk => ⟨hk.1, hk.2⟩))).2.1 (Kd.V_F (Kd.V_mono (ok' := (fun k_ => ((P0_ k_ ∨ P1_1_ k_) ∨ w.heap.size ≤ k_) ∧ k_ ≠ gb275)) (HO_276001.out) (fun k_ hk => ⟨hk.1, hk.2⟩))))) (Reps.none _ _)))
          intro v300 w46 ho47 hb hg_ hnew_
          clear hg_ hnew_
          (first | rw [← Ny299.out] at ho47 | (simp only [Int.reduceToNat] at ho47; rw [← Ny299.out] at ho47))
          have n0_ := Aside0.mk (Kd.V_elder' (by exact vU HO_0.out) (Kd.N_base ho47) hb)
          have n1_ := Aside0.mk (Kd.V_elder' (by exact vU HO_276001.out) (Kd.N_base ho47) hb)
          have n2_ := Aside0.mk (Kd.V_elder' (by exact vU HO295.out) (Kd.N_base ho47) hb)
          have n3_ := Aside0.mk (Kd.V_elder' (by exact vU HO309.out) (Kd.N_base ho47) hb)
          have n4_ := Aside0.mk (Kd.N_lower ho47 (below_size (by exact wS HB.out GE275.out)))
          have n5_ := Aside0.mk (blk_below (g := gb275) (o := .cells #[.int .i64 a1_0, .slice A1_1 l1_1.length c1_1, .int .i64 a1_2] 36 (0, 0)) (by (with_reducible repeat (first | refine blk_drewN ?_ _ | refine blk_drew ?_ | refine blk_alloc ?_ _)); exact BK275.out) hb)
          have n6_ := Aside0.mk (below_step (by exact wS HB.out GE275.out) hb)
          clear HO_0 HO_276001 HO295 HO309 BK275 HB
          have HO_0 := n0_
          have HO_276001 := n1_
          have HO295 := n2_
          have HO309 := n3_
          have HO301 := n4_
          have BK275 := n5_
          have HB := n6_
          clear n0_ n1_ n2_ n3_ n4_ n5_ n6_ hb ho47
          refine hK.out _ _ ⟨(blk_cell BK275.out 0).trans rfl, (blk_cell BK275.out 1).trans rfl, (blk_cell BK275.out 2).trans rfl⟩ (fun hHeld => ?_)
          clear hK K
          refine norm_ (a' := ?_) ?_ ?_
          rotate_left
          · show Act.put _ (some 64) _ = _
            simp only [pq29]
            rfl
          refine one_ (i := 0) (N := some 58) #[Y29,Y29,Y29,Y29,N29,Y29,Y29,N29,Y29,Y29,Y29,N29,N29] rfl rfl (one_of HT_.out (by kernel_rfl)) (by decide) (fun K hK => ?_)
          refine Kd.N_lit_step k36 _ 36 ?hg (N' := 58) ?hd (xs := ([] : List (S36))) (inner := []) (ok := (fun k_ => ((P0_ k_ ∨ P1_1_ k_) ∨ w.heap.size ≤ k_) ∧ some k_ ≠ (v300 : Value).ownBlock ∧ k_ ≠ gb275)) (okp := (fun k_ => ((P0_ k_ ∨ P1_1_ k_) ∨ w.heap.size ≤ k_) ∧ some k_ ≠ (v300 : Value).ownBlock ∧ k_ ≠ gb275)) ?hr ?hp (fun _ hk => hk) ((show ∀ k_, w46.heap.size ≤ k_ → (fun k_ => ((P0_ k_ ∨ P1_1_ k_) ∨ w.heap.size ≤ k_) ∧ some k_ ≠ (v300 : Value).ownBlock ∧ k_ ≠ gb275) k_ from fun k_ hk => ⟨(.inr (Nat.le_trans (below_size (by exact wS HB.out GE275.out)) hk)), Kd.fresh' (Kd.N_lt (by exact nU HO301.out)) k_ hk, Kd.freshB (g := gb275) (o := .cells #[.int .i64 a1_0, .slice A1_1 l1_1.length c1_1, .int .i64 a1_2] 36 (0, 0)) (by (with_reducible repeat (first | refine blk_drewN ?_ _ | refine blk_drew ?_ | refine blk_alloc ?_ _)); exact BK275.out) k_ hk⟩) _ (Nat.le_refl _)) (Below.refl _ _) (Nat.le_refl _) (by simp) ?_; (case hd => rfl); (case hg => rfl); (case hr => first | (go_simp; done) | (go_simp; rfl)); (case hp => exact (Reps.none _ _))
          intro v289 w48 ho49 hb hg_ hnew_
          clear hg_ hnew_
          (first | rw [← Ny288.out] at ho49 | (simp only [Int.reduceToNat] at ho49; rw [← Ny288.out] at ho49))
          have n0_ := Aside0.mk (Kd.V_elder' (by exact vU HO_0.out) (Kd.N_base ho49) hb)
          have n1_ := Aside0.mk (Kd.V_elder' (by exact vU HO_276001.out) (Kd.N_base ho49) hb)
          have n2_ := Aside0.mk (Kd.V_elder' (by exact vU HO295.out) (Kd.N_base ho49) hb)
          have n3_ := Aside0.mk (Kd.V_elder' (by exact vU HO309.out) (Kd.N_base ho49) hb)
          have n4_ := Aside0.mk (Kd.N_elder' (by exact nU HO301.out) (Kd.N_base ho49) hb)
          have n5_ := Aside0.mk (Kd.N_lower ho49 (below_size (by exact wS HB.out GE275.out)))
          have n6_ := Aside0.mk (blk_below (g := gb275) (o := .cells #[.int .i64 a1_0, .slice A1_1 l1_1.length c1_1, .int .i64 a1_2] 36 (0, 0)) (by (with_reducible repeat (first | refine blk_drewN ?_ _ | refine blk_drew ?_ | refine blk_alloc ?_ _)); exact BK275.out) hb)
          have n7_ := Aside0.mk (below_step (by exact wS HB.out GE275.out) hb)
          clear HO_0 HO_276001 HO295 HO309 HO301 BK275 HB
          have HO_0 := n0_
          have HO_276001 := n1_
          have HO295 := n2_
          have HO309 := n3_
          have HO301 := n4_
          have HO290 := n5_
          have BK275 := n6_
          have HB := n7_
          clear n0_ n1_ n2_ n3_ n4_ n5_ n6_ n7_ hb ho49
          refine hK.out _ _ ⟨(blk_cell BK275.out 0).trans rfl, (blk_cell BK275.out 1).trans rfl, (blk_cell BK275.out 2).trans rfl⟩ (fun hHeld => ?_)
          clear hK K
          refine norm_ (a' := ?_) ?_ ?_
          rotate_left
          · show Act.put _ (some 58) _ = _
            simp only [pq29]
            rfl
          refine one_ (i := 4) (N := some 62) #[Y29,Y29,Y29,Y29,Y29,Y29,Y29,N29,Y29,Y29,Y29,N29,N29] rfl rfl (one_of HT_.out (by kernel_rfl)) (by decide) (fun K hK => ?_)
          refine Kd.N_append_rows_step k36 (w0 := w) w.heap.size (by rfl) (.tmp 58) (.tmp 61) 28 36 (.agg #[(.int .i64 0), (.slice none 0 0), (.int .i64 0)]) 40 rfl Tryd.underlying28 info36 rfl (by decide) (by omega) v289 y288 y291 _ _ _ (fun k_ => ((P0_ k_ ∨ P1_1_ k_) ∨ w.heap.size ≤ k_) ∧ some k_ ≠ (v300 : Value).ownBlock ∧ k_ ≠ gb275) (fun k_ => ((fun k_ => ((P0_ k_ ∨ P1_1_ k_) ∨ w.heap.size ≤ k_) ∧ some k_ ≠ (v300 : Value).ownBlock ∧ k_ ≠ gb275)) k_ ∧ some k_ ≠ (v289 : Value).ownBlock) rfl rfl ?aO ?aR (fun _ hk => hk) ?aF ?aB ?aS ?aL ?_
          (case aR => exact (by skip; exact Kd.V_F (Kd.V_mono (ok' := (fun k_ => ((fun k_ => ((P0_ k_ ∨ P1_1_ k_) ∨ w.heap.size ≤ k_) ∧ some k_ ≠ (v300 : Value).ownBlock ∧ k_ ≠ gb275)) k_ ∧ some k_ ≠ (v289 : Value).ownBlock)) (HO295.out) (fun k_ hk => ⟨⟨hk.1.1.1, ⟨hk.1.2, hk.1.1.2⟩⟩, hk.2⟩))))
          (case aB => exact (by exact wS HB.out GE275.out))
          (case aF => exact (fun k_ hk => ⟨(.inr (Nat.le_trans (below_size (by exact wS HB.out GE275.out)) hk)), Kd.fresh' (Kd.N_lt (by exact nU HO301.out)) k_ hk, Kd.freshB (g := gb275) (o := .cells #[.int .i64 a1_0, .slice A1_1 l1_1.length c1_1, .int .i64 a1_2] 36 (0, 0)) (by (with_reducible repeat (first | refine blk_drewN ?_ _ | refine blk_drew ?_ | refine blk_alloc ?_ _)); exact BK275.out) k_ hk⟩))
          (case aO => exact (by exact nU HO290.out))
          (case aS => exact (below_size (by exact wS HB.out GE275.out)))
          (case aL => have := LMc38.out; omega)
          intro v297 w50 ho hb hg hat
          rw [← Ny296.out] at ho
          have n0_ := Aside0.mk (Kd.V_afterv (ok := (fun k_ => ((P0_ k_ ∨ P1_1_ k_) ∨ w.heap.size ≤ k_) ∧ some k_ ≠ (v300 : Value).ownBlock ∧ k_ ≠ gb275)) (by exact vU (Kd.V_mono HO_0.out (fun _ hk => ⟨⟨hk.1.1.1, ⟨hk.1.2, hk.1.1.2⟩⟩, hk.2⟩))) hg hat)
          have n1_ := Aside0.mk (Kd.V_afterv (ok := (fun k_ => ((P0_ k_ ∨ P1_1_ k_) ∨ w.heap.size ≤ k_) ∧ some k_ ≠ (v300 : Value).ownBlock ∧ k_ ≠ gb275)) (by exact vU (Kd.V_mono HO_276001.out (fun _ hk => ⟨⟨hk.1.1.1, ⟨hk.1.2, hk.1.1.2⟩⟩, hk.2⟩))) hg hat)
          have n2_ := Aside0.mk (blk_grown (g := gb275) (o := .cells #[.int .i64 a1_0, .slice A1_1 l1_1.length c1_1, .int .i64 a1_2] 36 (0, 0)) (by (with_reducible repeat (first | refine blk_drewN ?_ _ | refine blk_drew ?_ | refine blk_alloc ?_ _)); exact BK275.out) hg (Kd.N_away HO290.out (fun _ hk => hk.2.2)))
          have n3_ := Aside0.mk (Kd.V_afterv (ok := (fun k_ => ((P0_ k_ ∨ P1_1_ k_) ∨ w.heap.size ≤ k_) ∧ some k_ ≠ (v300 : Value).ownBlock ∧ k_ ≠ gb275)) (by exact vU (Kd.V_mono HO295.out (fun _ hk => ⟨⟨hk.1.1.1, ⟨hk.1.2, hk.1.1.2⟩⟩, hk.2⟩))) hg hat)
          have n4_ := Aside0.mk (Kd.V_afterv (ok := (fun k_ => ((P0_ k_ ∨ P1_1_ k_) ∨ w.heap.size ≤ k_) ∧ some k_ ≠ (v300 : Value).ownBlock ∧ k_ ≠ gb275)) (by exact vU (Kd.V_mono HO309.out (fun _ hk => ⟨⟨hk.1.1.1, ⟨hk.1.2, hk.1.1.2⟩⟩, hk.2⟩))) hg hat)
          have n5_ := Aside0.mk (Kd.N_afterv (ok := (fun k_ => ((P0_ k_ ∨ P1_1_ k_) ∨ w.heap.size ≤ k_) ∧ k_ ≠ gb275)) (by exact nU HO301.out) hg hat)
          have n6_ := Aside0.mk (hb)
          have n7_ := Aside0.mk (ho)
          clear HO_0 HO_276001 BK275 HO295 HO309 HO301 HB HO290
          have HO_0 := n0_
          have HO_276001 := n1_
          have BK275 := n2_
          have HO295 := n3_
          have HO309 := n4_
          have HO301 := n5_
          have HB := n6_
          have HO298 := n7_
          clear n0_ n1_ n2_ n3_ n4_ n5_ n6_ n7_ ho hb hg hat
          refine hK.out _ _ ⟨(blk_cell BK275.out 0).trans rfl, (blk_cell BK275.out 1).trans rfl, (blk_cell BK275.out 2).trans rfl⟩ (fun hHeld => ?_)
          clear hK K
          refine norm_ (a' := ?_) ?_ ?_
          rotate_left
          · show Act.put _ (some 62) _ = _
            simp only [pq29]
            rfl
          exact norm_ (by simp only [putAll, Act.put, List.setIfInBounds_toArray, List.set_cons_zero, List.set_cons_succ]) (hCont (v289, v297, v300) _ ⟨hHeld, (by exact vU (Kd.V_mono HO295.out (fun _ hk => ⟨hk.1.1, ⟨hk.2, ⟨hk.1.2.1, hk.1.2.2⟩⟩⟩))), (by exact nU HO298.out), (by exact nU (Kd.N_mono HO301.out (fun _ hk => ⟨hk.1.1, ⟨hk.2, hk.1.2⟩⟩))), (by exact vU (Kd.V_mono HO309.out (fun _ hk => ⟨hk.1.1, ⟨hk.2, ⟨hk.1.2.1, hk.1.2.2⟩⟩⟩))), (by exact vU (Kd.V_mono HO_0.out (fun _ hk => ⟨hk.1.1, ⟨hk.2, ⟨hk.1.2.1, hk.1.2.2⟩⟩⟩))), (by exact vU (Kd.V_mono HO_276001.out (fun _ hk => ⟨hk.1.1, ⟨hk.2, ⟨hk.1.2.1, hk.1.2.2⟩⟩⟩))), (by (with_reducible repeat (first | refine blk_drewN ?_ _ | refine blk_drew ?_ | refine blk_alloc ?_ _)); exact BK275.out), (by exact wS HB.out GE275.out)⟩)
        skip
        refine Kd.N_lit_step k36 _ 36 ?hg (N' := 58) ?hd (xs := ([] : List (S36))) (inner := []) (ok := (fun k_ => ((P0_ k_ ∨ P1_1_ k_) ∨ w.heap.size ≤ k_) ∧ k_ ≠ gb275)) (okp := (fun k_ => ((P0_ k_ ∨ P1_1_ k_) ∨ w.heap.size ≤ k_) ∧ k_ ≠ gb275)) ?hr ?hp (fun _ hk => hk) ((show ∀ k_, w43.heap.size ≤ k_ → (fun k_ => ((P0_ k_ ∨ P1_1_ k_) ∨ w.heap.size ≤ k_) ∧ k_ ≠ gb275) k_ from fun k_ hk => ⟨(.inr (Nat.le_trans (below_size (by exact wS HB.out GE275.out)) hk)), Kd.freshB (g := gb275) (o := .cells #[.int .i64 a1_0, .slice A1_1 l1_1.length c1_1, .int .i64 a1_2] 36 (0, 0)) (by (with_reducible repeat (first | refine blk_drewN ?_ _ | refine blk_drew ?_ | refine blk_alloc ?_ _)); exact BK275.out) k_ hk⟩) _ (Nat.le_refl _)) (Below.refl _ _) (Nat.le_refl _) (by simp) ?_; (case hd => rfl); (case hg => rfl); (case hr => first | (go_simp; done) | (go_simp; rfl)); (case hp => exact (Reps.none _ _))
        intro v289 w46 ho47 hb hg_ hnew_
        clear hg_ hnew_
        (first | rw [← Ny288.out] at ho47 | (simp only [Int.reduceToNat] at ho47; rw [← Ny288.out] at ho47))
        have n0_ := Aside0.mk (Kd.V_elder' (by exact vU HO_0.out) (Kd.N_base ho47) hb)
        have n1_ := Aside0.mk (Kd.V_elder' (by exact vU HO_276001.out) (Kd.N_base ho47) hb)
        have n2_ := Aside0.mk (Kd.V_elder' (by exact vU HO295.out) (Kd.N_base ho47) hb)
        have n3_ := Aside0.mk (Kd.V_elder' (by exact vU HO309.out) (Kd.N_base ho47) hb)
        have n4_ := Aside0.mk (Kd.N_lower ho47 (below_size (by exact wS HB.out GE275.out)))
        have n5_ := Aside0.mk (blk_below (g := gb275) (o := .cells #[.int .i64 a1_0, .slice A1_1 l1_1.length c1_1, .int .i64 a1_2] 36 (0, 0)) (by (with_reducible repeat (first | refine blk_drewN ?_ _ | refine blk_drew ?_ | refine blk_alloc ?_ _)); exact BK275.out) hb)
        have n6_ := Aside0.mk (below_step (by exact wS HB.out GE275.out) hb)
        clear HO_0 HO_276001 HO295 HO309 BK275 HB
        have HO_0 := n0_
        have HO_276001 := n1_
        have HO295 := n2_
        have HO309 := n3_
        have HO290 := n4_
        have BK275 := n5_
        have HB := n6_
        clear n0_ n1_ n2_ n3_ n4_ n5_ n6_ hb ho47
        refine hK.out _ _ ⟨(blk_cell BK275.out 0).trans rfl, (blk_cell BK275.out 1).trans rfl, (blk_cell BK275.out 2).trans rfl⟩ (fun hHeld => ?_)
        clear hK K
        refine norm_ (a' := ?_) ?_ ?_
        rotate_left
        · show Act.put _ (some 58) _ = _
          simp only [pq29]
          rfl
        refine two_ (i := 4) (j := 6) (Ni := some 62) (Nj := some 64) #[Y29,Y29,Y29,Y29,Y29,Y29,N29,N29,Y29,Y29,Y29,N29,N29] #[Y29,Y29,Y29,Y29,N29,Y29,Y29,N29,Y29,Y29,Y29,N29,N29] rfl rfl rfl rfl (two_of HT_.out (by kernel_rfl)) (by decide) (by decide) (fun K hK => ?_) (fun K hK => ?_)
        · skip
          refine Kd.N_append_rows_step k36 (w0 := w) w.heap.size (by rfl) (.tmp 58) (.tmp 61) 28 36 (.agg #[(.int .i64 0), (.slice none 0 0), (.int .i64 0)]) 40 rfl Tryd.underlying28 info36 rfl (by decide) (by omega) v289 y288 y291 _ _ _ (fun k_ => ((P0_ k_ ∨ P1_1_ k_) ∨ w.heap.size ≤ k_) ∧ k_ ≠ gb275) (fun k_ => ((fun k_ => ((P0_ k_ ∨ P1_1_ k_) ∨ w.heap.size ≤ k_) ∧ k_ ≠ gb275)) k_ ∧ some k_ ≠ (v289 : Value).ownBlock) rfl rfl ?aO ?aR (fun _ hk => hk) ?aF ?aB ?aS ?aL ?_
          (case aR => exact (by skip; exact Kd.V_F (Kd.V_mono (ok' := (fun k_ => ((fun k_ => ((P0_ k_ ∨ P1_1_ k_) ∨ w.heap.size ≤ k_) ∧ k_ ≠ gb275)) k_ ∧ some k_ ≠ (v289 : Value).ownBlock)) (HO295.out) (fun k_ hk => ⟨⟨hk.1.1, hk.1.2⟩, hk.2⟩))))
          (case aB => exact (by exact wS HB.out GE275.out))
          (case aF => exact (fun k_ hk => ⟨(.inr (Nat.le_trans (below_size (by exact wS HB.out GE275.out)) hk)), Kd.freshB (g := gb275) (o := .cells #[.int .i64 a1_0, .slice A1_1 l1_1.length c1_1, .int .i64 a1_2] 36 (0, 0)) (by (with_reducible repeat (first | refine blk_drewN ?_ _ | refine blk_drew ?_ | refine blk_alloc ?_ _)); exact BK275.out) k_ hk⟩))
          (case aO => exact (by exact nU HO290.out))
          (case aS => exact (below_size (by exact wS HB.out GE275.out)))
          (case aL => have := LMc38.out; omega)
          intro v297 w48 ho hb hg hat
          rw [← Ny296.out] at ho
          have n0_ := Aside0.mk (Kd.V_afterv (ok := (fun k_ => ((P0_ k_ ∨ P1_1_ k_) ∨ w.heap.size ≤ k_) ∧ k_ ≠ gb275)) (by exact vU HO_0.out) hg hat)
          have n1_ := Aside0.mk (Kd.V_afterv (ok := (fun k_ => ((P0_ k_ ∨ P1_1_ k_) ∨ w.heap.size ≤ k_) ∧ k_ ≠ gb275)) (by exact vU HO_276001.out) hg hat)
          have n2_ := Aside0.mk (blk_grown (g := gb275) (o := .cells #[.int .i64 a1_0, .slice A1_1 l1_1.length c1_1, .int .i64 a1_2] 36 (0, 0)) (by (with_reducible repeat (first | refine blk_drewN ?_ _ | refine blk_drew ?_ | refine blk_alloc ?_ _)); exact BK275.out) hg (Kd.N_away HO290.out (fun _ hk => hk.2)))
          have n3_ := Aside0.mk (Kd.V_afterv (ok := (fun k_ => ((P0_ k_ ∨ P1_1_ k_) ∨ w.heap.size ≤ k_) ∧ k_ ≠ gb275)) (by exact vU HO295.out) hg hat)
          have n4_ := Aside0.mk (Kd.V_afterv (ok := (fun k_ => ((P0_ k_ ∨ P1_1_ k_) ∨ w.heap.size ≤ k_) ∧ k_ ≠ gb275)) (by exact vU HO309.out) hg hat)
          have n5_ := Aside0.mk (hb)
          have n6_ := Aside0.mk (ho)
          clear HO_0 HO_276001 BK275 HO295 HO309 HB HO290
          have HO_0 := n0_
          have HO_276001 := n1_
          have BK275 := n2_
          have HO295 := n3_
          have HO309 := n4_
          have HB := n5_
          have HO298 := n6_
          clear n0_ n1_ n2_ n3_ n4_ n5_ n6_ ho hb hg hat
          refine hK.out _ _ ⟨(blk_cell BK275.out 0).trans rfl, (blk_cell BK275.out 1).trans rfl, (blk_cell BK275.out 2).trans rfl⟩ (fun hHeld => ?_)
          clear hK K
          refine norm_ (a' := ?_) ?_ ?_
          rotate_left
          · show Act.put _ (some 62) _ = _
            simp only [pq29]
            rfl
          refine one_ (i := 6) (N := some 64) #[Y29,Y29,Y29,Y29,Y29,Y29,Y29,N29,Y29,Y29,Y29,N29,N29] rfl rfl (one_of HT_.out (by kernel_rfl)) (by decide) (fun K hK => ?_)
          refine Kd.N_lit_step k36 _ 36 ?hg (N' := 64) ?hd (xs := ([(⟨(⟨a1_0, l1_1⟩ : S24), a1_2⟩ : S36)] : List (S36))) (inner := [.int .i64 a1_0, .slice A1_1 l1_1.length c1_1, .int .i64 a1_2]) (ok := (fun k_ => ((P0_ k_ ∨ P1_1_ k_) ∨ w.heap.size ≤ k_) ∧ some k_ ≠ (v297 : Value).ownBlock ∧ k_ ≠ gb275)) (okp := (fun k_ => ((P0_ k_ ∨ P1_1_ k_) ∨ w.heap.size ≤ k_) ∧ some k_ ≠ (v297 : Value).ownBlock ∧ k_ ≠ gb275)) ?hr ?hp (fun _ hk => hk) ((show ∀ k_, w48.heap.size ≤ k_ → (fun k_ => ((P0_ k_ ∨ P1_1_ k_) ∨ w.heap.size ≤ k_) ∧ some k_ ≠ (v297 : Value).ownBlock ∧ k_ ≠ gb275) k_ from fun k_ hk => ⟨(.inr (Nat.le_trans (below_size (by exact wS HB.out GE275.out)) hk)), Kd.fresh' (Kd.N_lt (by exact nU HO298.out)) k_ hk, Kd.freshB (g := gb275) (o := .cells #[.int .i64 a1_0, .slice A1_1 l1_1.length c1_1, .int .i64 a1_2] 36 (0, 0)) (by (with_reducible repeat (first | refine blk_drewN ?_ _ | refine blk_drew ?_ | refine blk_alloc ?_ _)); exact BK275.out) k_ hk⟩) _ (Nat.le_refl _)) (Below.refl _ _) (Nat.le_refl _) (by simp) ?_; (case hd => rfl); (case hg => rfl); (case hr => first | (go_simp; done) | (go_simp; rfl)); (case hp => exact (Reps.c3 (show Kd.FK k36 _ _ (⟨(⟨a1_0, l1_1⟩ : S24), a1_2⟩ : S36) [.int .i64 a1_0, .slice A1_1 l1_1.length c1_1, .int .i64 a1_2] from (k36_mkF _ _ (⟨(⟨a1_0, l1_1⟩ : S24), a1_2⟩ : S36) (Kd.V_reads' (Kd.V_mono (ok' := (fun k_ => ((P0_ k_ ∨ P1_1_ k_) ∨ w.heap.size ≤ k_) ∧ some k_ ≠ (v297 : Value).ownBlock ∧ k_ ≠ gb275)) (HO_276001.out) (fun k_ hk => ⟨hk.1.1, ⟨hk.2, hk.1.2⟩⟩))).2.1 (Kd.V_F (Kd.V_mono (ok' := (fun k_ => ((P0_ k_ ∨ P1_1_ k_) ∨ w.heap.size ≤ k_) ∧ some k_ ≠ (v297 : Value).ownBlock ∧ k_ ≠ gb275)) (HO_276001.out) (fun k_ hk => ⟨hk.1.1, ⟨hk.2, hk.1.2⟩⟩))))) (Reps.none _ _)))
          intro v300 w49 ho50 hb hg_ hnew_
          clear hg_ hnew_
          (first | rw [← Ny299.out] at ho50 | (simp only [Int.reduceToNat] at ho50; rw [← Ny299.out] at ho50))
          have n0_ := Aside0.mk (Kd.V_elder' (by exact vU HO_0.out) (Kd.N_base ho50) hb)
          have n1_ := Aside0.mk (Kd.V_elder' (by exact vU HO_276001.out) (Kd.N_base ho50) hb)
          have n2_ := Aside0.mk (Kd.V_elder' (by exact vU HO295.out) (Kd.N_base ho50) hb)
          have n3_ := Aside0.mk (Kd.V_elder' (by exact vU HO309.out) (Kd.N_base ho50) hb)
          have n4_ := Aside0.mk (Kd.N_elder' (by exact nU HO298.out) (Kd.N_base ho50) hb)
          have n5_ := Aside0.mk (Kd.N_lower ho50 (below_size (by exact wS HB.out GE275.out)))
          have n6_ := Aside0.mk (blk_below (g := gb275) (o := .cells #[.int .i64 a1_0, .slice A1_1 l1_1.length c1_1, .int .i64 a1_2] 36 (0, 0)) (by (with_reducible repeat (first | refine blk_drewN ?_ _ | refine blk_drew ?_ | refine blk_alloc ?_ _)); exact BK275.out) hb)
          have n7_ := Aside0.mk (below_step (by exact wS HB.out GE275.out) hb)
          clear HO_0 HO_276001 HO295 HO309 HO298 BK275 HB
          have HO_0 := n0_
          have HO_276001 := n1_
          have HO295 := n2_
          have HO309 := n3_
          have HO298 := n4_
          have HO301 := n5_
          have BK275 := n6_
          have HB := n7_
          clear n0_ n1_ n2_ n3_ n4_ n5_ n6_ n7_ hb ho50
          refine hK.out _ _ ⟨(blk_cell BK275.out 0).trans rfl, (blk_cell BK275.out 1).trans rfl, (blk_cell BK275.out 2).trans rfl⟩ (fun hHeld => ?_)
          clear hK K
          refine norm_ (a' := ?_) ?_ ?_
          rotate_left
          · show Act.put _ (some 64) _ = _
            simp only [pq29]
            rfl
          exact norm_ (by simp only [putAll, Act.put, List.setIfInBounds_toArray, List.set_cons_zero, List.set_cons_succ]) (hCont (v289, v297, v300) _ ⟨hHeld, (by exact vU (Kd.V_mono HO295.out (fun _ hk => ⟨hk.1.1.1, ⟨hk.1.2, ⟨hk.2, hk.1.1.2⟩⟩⟩))), (by exact nU (Kd.N_mono HO298.out (fun _ hk => ⟨hk.1.1, ⟨hk.2, hk.1.2⟩⟩))), (by exact nU HO301.out), (by exact vU (Kd.V_mono HO309.out (fun _ hk => ⟨hk.1.1.1, ⟨hk.1.2, ⟨hk.2, hk.1.1.2⟩⟩⟩))), (by exact vU (Kd.V_mono HO_0.out (fun _ hk => ⟨hk.1.1.1, ⟨hk.1.2, ⟨hk.2, hk.1.1.2⟩⟩⟩))), (by exact vU (Kd.V_mono HO_276001.out (fun _ hk => ⟨hk.1.1.1, ⟨hk.1.2, ⟨hk.2, hk.1.1.2⟩⟩⟩))), (by (with_reducible repeat (first | refine blk_drewN ?_ _ | refine blk_drew ?_ | refine blk_alloc ?_ _)); exact BK275.out), (by exact wS HB.out GE275.out)⟩)
        skip
        refine Kd.N_lit_step k36 _ 36 ?hg (N' := 64) ?hd (xs := ([(⟨(⟨a1_0, l1_1⟩ : S24), a1_2⟩ : S36)] : List (S36))) (inner := [.int .i64 a1_0, .slice A1_1 l1_1.length c1_1, .int .i64 a1_2]) (ok := (fun k_ => ((P0_ k_ ∨ P1_1_ k_) ∨ w.heap.size ≤ k_) ∧ some k_ ≠ (v289 : Value).ownBlock ∧ k_ ≠ gb275)) (okp := (fun k_ => ((P0_ k_ ∨ P1_1_ k_) ∨ w.heap.size ≤ k_) ∧ some k_ ≠ (v289 : Value).ownBlock ∧ k_ ≠ gb275)) ?hr ?hp (fun _ hk => hk) ((show ∀ k_, w46.heap.size ≤ k_ → (fun k_ => ((P0_ k_ ∨ P1_1_ k_) ∨ w.heap.size ≤ k_) ∧ some k_ ≠ (v289 : Value).ownBlock ∧ k_ ≠ gb275) k_ from fun k_ hk => ⟨(.inr (Nat.le_trans (below_size (by exact wS HB.out GE275.out)) hk)), Kd.fresh' (Kd.N_lt (by exact nU HO290.out)) k_ hk, Kd.freshB (g := gb275) (o := .cells #[.int .i64 a1_0, .slice A1_1 l1_1.length c1_1, .int .i64 a1_2] 36 (0, 0)) (by (with_reducible repeat (first | refine blk_drewN ?_ _ | refine blk_drew ?_ | refine blk_alloc ?_ _)); exact BK275.out) k_ hk⟩) _ (Nat.le_refl _)) (Below.refl _ _) (Nat.le_refl _) (by simp) ?_; (case hd => rfl); (case hg => rfl); (case hr => first | (go_simp; done) | (go_simp; rfl)); (case hp => exact (Reps.c3 (show Kd.FK k36 _ _ (⟨(⟨a1_0, l1_1⟩ : S24), a1_2⟩ : S36) [.int .i64 a1_0, .slice A1_1 l1_1.length c1_1, .int .i64 a1_2] from (k36_mkF _ _ (⟨(⟨a1_0, l1_1⟩ : S24), a1_2⟩ : S36) (Kd.V_reads' (Kd.V_mono (ok' := (fun k_ => ((P0_ k_ ∨ P1_1_ k_) ∨ w.heap.size ≤ k_) ∧ some k_ ≠ (v289 : Value).ownBlock ∧ k_ ≠ gb275)) (HO_276001.out) (fun k_ hk => ⟨hk.1.1, ⟨hk.2, hk.1.2⟩⟩))).2.1 (Kd.V_F (Kd.V_mono (ok' := (fun k_ => ((P0_ k_ ∨ P1_1_ k_) ∨ w.heap.size ≤ k_) ∧ some k_ ≠ (v289 : Value).ownBlock ∧ k_ ≠ gb275)) (HO_276001.out) (fun k_ hk => ⟨hk.1.1, ⟨hk.2, hk.1.2⟩⟩))))) (Reps.none _ _)))
        intro v300 w48 ho49 hb hg_ hnew_
        clear hg_ hnew_
        (first | rw [← Ny299.out] at ho49 | (simp only [Int.reduceToNat] at ho49; rw [← Ny299.out] at ho49))
        have n0_ := Aside0.mk (Kd.V_elder' (by exact vU HO_0.out) (Kd.N_base ho49) hb)
        have n1_ := Aside0.mk (Kd.V_elder' (by exact vU HO_276001.out) (Kd.N_base ho49) hb)
        have n2_ := Aside0.mk (Kd.V_elder' (by exact vU HO295.out) (Kd.N_base ho49) hb)
        have n3_ := Aside0.mk (Kd.V_elder' (by exact vU HO309.out) (Kd.N_base ho49) hb)
        have n4_ := Aside0.mk (Kd.N_elder' (by exact nU HO290.out) (Kd.N_base ho49) hb)
        have n5_ := Aside0.mk (Kd.N_lower ho49 (below_size (by exact wS HB.out GE275.out)))
        have n6_ := Aside0.mk (blk_below (g := gb275) (o := .cells #[.int .i64 a1_0, .slice A1_1 l1_1.length c1_1, .int .i64 a1_2] 36 (0, 0)) (by (with_reducible repeat (first | refine blk_drewN ?_ _ | refine blk_drew ?_ | refine blk_alloc ?_ _)); exact BK275.out) hb)
        have n7_ := Aside0.mk (below_step (by exact wS HB.out GE275.out) hb)
        clear HO_0 HO_276001 HO295 HO309 HO290 BK275 HB
        have HO_0 := n0_
        have HO_276001 := n1_
        have HO295 := n2_
        have HO309 := n3_
        have HO290 := n4_
        have HO301 := n5_
        have BK275 := n6_
        have HB := n7_
        clear n0_ n1_ n2_ n3_ n4_ n5_ n6_ n7_ hb ho49
        refine hK.out _ _ ⟨(blk_cell BK275.out 0).trans rfl, (blk_cell BK275.out 1).trans rfl, (blk_cell BK275.out 2).trans rfl⟩ (fun hHeld => ?_)
        clear hK K
        refine norm_ (a' := ?_) ?_ ?_
        rotate_left
        · show Act.put _ (some 64) _ = _
          simp only [pq29]
          rfl
        refine one_ (i := 4) (N := some 62) #[Y29,Y29,Y29,Y29,Y29,Y29,Y29,N29,Y29,Y29,Y29,N29,N29] rfl rfl (one_of HT_.out (by kernel_rfl)) (by decide) (fun K hK => ?_)
        refine Kd.N_append_rows_step k36 (w0 := w) w.heap.size (by rfl) (.tmp 58) (.tmp 61) 28 36 (.agg #[(.int .i64 0), (.slice none 0 0), (.int .i64 0)]) 40 rfl Tryd.underlying28 info36 rfl (by decide) (by omega) v289 y288 y291 _ _ _ (fun k_ => ((P0_ k_ ∨ P1_1_ k_) ∨ w.heap.size ≤ k_) ∧ some k_ ≠ (v300 : Value).ownBlock ∧ k_ ≠ gb275) (fun k_ => ((fun k_ => ((P0_ k_ ∨ P1_1_ k_) ∨ w.heap.size ≤ k_) ∧ some k_ ≠ (v300 : Value).ownBlock ∧ k_ ≠ gb275)) k_ ∧ some k_ ≠ (v289 : Value).ownBlock) rfl rfl ?aO ?aR (fun _ hk => hk) ?aF ?aB ?aS ?aL ?_
        (case aR => exact (by skip; exact Kd.V_F (Kd.V_mono (ok' := (fun k_ => ((fun k_ => ((P0_ k_ ∨ P1_1_ k_) ∨ w.heap.size ≤ k_) ∧ some k_ ≠ (v300 : Value).ownBlock ∧ k_ ≠ gb275)) k_ ∧ some k_ ≠ (v289 : Value).ownBlock)) (HO295.out) (fun k_ hk => ⟨⟨hk.1.1.1, ⟨hk.2, hk.1.1.2⟩⟩, hk.1.2⟩))))
        (case aB => exact (by exact wS HB.out GE275.out))
        (case aF => exact (fun k_ hk => ⟨(.inr (Nat.le_trans (below_size (by exact wS HB.out GE275.out)) hk)), Kd.fresh' (Kd.N_lt (by exact nU HO301.out)) k_ hk, Kd.freshB (g := gb275) (o := .cells #[.int .i64 a1_0, .slice A1_1 l1_1.length c1_1, .int .i64 a1_2] 36 (0, 0)) (by (with_reducible repeat (first | refine blk_drewN ?_ _ | refine blk_drew ?_ | refine blk_alloc ?_ _)); exact BK275.out) k_ hk⟩))
        (case aO => exact (by exact nU (Kd.N_mono HO290.out (fun _ hk => ⟨hk.1.1, ⟨hk.2, hk.1.2⟩⟩))))
        (case aS => exact (below_size (by exact wS HB.out GE275.out)))
        (case aL => have := LMc38.out; omega)
        intro v297 w50 ho hb hg hat
        rw [← Ny296.out] at ho
        have n0_ := Aside0.mk (Kd.V_afterv (ok := (fun k_ => ((P0_ k_ ∨ P1_1_ k_) ∨ w.heap.size ≤ k_) ∧ some k_ ≠ (v300 : Value).ownBlock ∧ k_ ≠ gb275)) (by exact vU (Kd.V_mono HO_0.out (fun _ hk => ⟨⟨hk.1.1.1, ⟨hk.2, hk.1.1.2⟩⟩, hk.1.2⟩))) hg hat)
        have n1_ := Aside0.mk (Kd.V_afterv (ok := (fun k_ => ((P0_ k_ ∨ P1_1_ k_) ∨ w.heap.size ≤ k_) ∧ some k_ ≠ (v300 : Value).ownBlock ∧ k_ ≠ gb275)) (by exact vU (Kd.V_mono HO_276001.out (fun _ hk => ⟨⟨hk.1.1.1, ⟨hk.2, hk.1.1.2⟩⟩, hk.1.2⟩))) hg hat)
        have n2_ := Aside0.mk (blk_grown (g := gb275) (o := .cells #[.int .i64 a1_0, .slice A1_1 l1_1.length c1_1, .int .i64 a1_2] 36 (0, 0)) (by (with_reducible repeat (first | refine blk_drewN ?_ _ | refine blk_drew ?_ | refine blk_alloc ?_ _)); exact BK275.out) hg (Kd.N_away HO290.out (fun _ hk => hk.1.2)))
        have n3_ := Aside0.mk (Kd.V_afterv (ok := (fun k_ => ((P0_ k_ ∨ P1_1_ k_) ∨ w.heap.size ≤ k_) ∧ some k_ ≠ (v300 : Value).ownBlock ∧ k_ ≠ gb275)) (by exact vU (Kd.V_mono HO295.out (fun _ hk => ⟨⟨hk.1.1.1, ⟨hk.2, hk.1.1.2⟩⟩, hk.1.2⟩))) hg hat)
        have n4_ := Aside0.mk (Kd.V_afterv (ok := (fun k_ => ((P0_ k_ ∨ P1_1_ k_) ∨ w.heap.size ≤ k_) ∧ some k_ ≠ (v300 : Value).ownBlock ∧ k_ ≠ gb275)) (by exact vU (Kd.V_mono HO309.out (fun _ hk => ⟨⟨hk.1.1.1, ⟨hk.2, hk.1.1.2⟩⟩, hk.1.2⟩))) hg hat)
        have n5_ := Aside0.mk (Kd.N_afterv (ok := (fun k_ => ((P0_ k_ ∨ P1_1_ k_) ∨ w.heap.size ≤ k_) ∧ k_ ≠ gb275)) (by exact nU (Kd.N_mono HO301.out (fun _ hk => ⟨⟨hk.1, hk.2.2⟩, hk.2.1⟩))) hg hat)
        have n6_ := Aside0.mk (hb)
        have n7_ := Aside0.mk (ho)
        clear HO_0 HO_276001 BK275 HO295 HO309 HO301 HB HO290
        have HO_0 := n0_
        have HO_276001 := n1_
        have BK275 := n2_
        have HO295 := n3_
        have HO309 := n4_
        have HO301 := n5_
        have HB := n6_
        have HO298 := n7_
        clear n0_ n1_ n2_ n3_ n4_ n5_ n6_ n7_ ho hb hg hat
        refine hK.out _ _ ⟨(blk_cell BK275.out 0).trans rfl, (blk_cell BK275.out 1).trans rfl, (blk_cell BK275.out 2).trans rfl⟩ (fun hHeld => ?_)
        clear hK K
        refine norm_ (a' := ?_) ?_ ?_
        rotate_left
        · show Act.put _ (some 62) _ = _
          simp only [pq29]
          rfl
        exact norm_ (by simp only [putAll, Act.put, List.setIfInBounds_toArray, List.set_cons_zero, List.set_cons_succ]) (hCont (v289, v297, v300) _ ⟨hHeld, (by exact vU (Kd.V_mono HO295.out (fun _ hk => ⟨hk.1.1, ⟨hk.2, ⟨hk.1.2.1, hk.1.2.2⟩⟩⟩))), (by exact nU HO298.out), (by exact nU (Kd.N_mono HO301.out (fun _ hk => ⟨hk.1.1, ⟨hk.2, hk.1.2⟩⟩))), (by exact vU (Kd.V_mono HO309.out (fun _ hk => ⟨hk.1.1, ⟨hk.2, ⟨hk.1.2.1, hk.1.2.2⟩⟩⟩))), (by exact vU (Kd.V_mono HO_0.out (fun _ hk => ⟨hk.1.1, ⟨hk.2, ⟨hk.1.2.1, hk.1.2.2⟩⟩⟩))), (by exact vU (Kd.V_mono HO_276001.out (fun _ hk => ⟨hk.1.1, ⟨hk.2, ⟨hk.1.2.1, hk.1.2.2⟩⟩⟩))), (by (with_reducible repeat (first | refine blk_drewN ?_ _ | refine blk_drew ?_ | refine blk_alloc ?_ _)); exact BK275.out), (by exact wS HB.out GE275.out)⟩)
      rintro ⟨v289, v297, v300⟩ w51 ⟨hS_, h0_, h1_, h2_, h3_, h4_, h5_, h6_, h7_⟩
      have n0_ : Aside0 (Kd.V k36 36 w51 w.heap.size (fun k_ => ((P0_ k_ ∨ P1_1_ k_) ∨ w.heap.size ≤ k_) ∧ some k_ ≠ (v297 : Value).ownBlock ∧ some k_ ≠ (v300 : Value).ownBlock ∧ k_ ≠ gb275) (.slice A0 y291.length c0) y291) := ⟨h0_⟩
      have n1_ : Aside0 (Kd.N k36 36 w51 w.heap.size (fun k_ => ((P0_ k_ ∨ P1_1_ k_) ∨ w.heap.size ≤ k_) ∧ some k_ ≠ (v300 : Value).ownBlock ∧ k_ ≠ gb275) v297 y296) := ⟨h1_⟩
      have n2_ : Aside0 (Kd.N k36 36 w51 w.heap.size (fun k_ => ((P0_ k_ ∨ P1_1_ k_) ∨ w.heap.size ≤ k_) ∧ some k_ ≠ (v297 : Value).ownBlock ∧ k_ ≠ gb275) v300 y299) := ⟨h2_⟩
      have n3_ : Aside0 (Kd.V k36 36 w51 w.heap.size (fun k_ => ((P0_ k_ ∨ P1_1_ k_) ∨ w.heap.size ≤ k_) ∧ some k_ ≠ (v297 : Value).ownBlock ∧ some k_ ≠ (v300 : Value).ownBlock ∧ k_ ≠ gb275) (.slice A45 y305.length c45) y305) := ⟨h3_⟩
      have n4_ : Aside0 (Kd.V k36 36 w51 w.heap.size (fun k_ => ((P0_ k_ ∨ P1_1_ k_) ∨ w.heap.size ≤ k_) ∧ some k_ ≠ (v297 : Value).ownBlock ∧ some k_ ≠ (v300 : Value).ownBlock ∧ k_ ≠ gb275) (.slice A0 l0.length c0) l0) := ⟨h4_⟩
      have n5_ : Aside0 (Kd.V (Kd.int .i64) 3 w51 w.heap.size (fun k_ => ((P0_ k_ ∨ P1_1_ k_) ∨ w.heap.size ≤ k_) ∧ some k_ ≠ (v297 : Value).ownBlock ∧ some k_ ≠ (v300 : Value).ownBlock ∧ k_ ≠ gb275) (.slice A1_1 l1_1.length c1_1) l1_1) := ⟨h5_⟩
      have n6_ : Aside0 (w51.heap[gb275]? = some (.cells #[.int .i64 a1_0, .slice A1_1 l1_1.length c1_1, .int .i64 a1_2] 36 (0, 0))) := ⟨h6_⟩
      have n7_ : Aside0 (Below w.heap.size w w51) := ⟨h7_⟩
      clear HO_0 HO_276001 BK275 HB h0_ h1_ h2_ h3_ h4_ h5_ h6_ h7_
      have HO295 := n0_
      have HO298 := n1_
      have HO301 := n2_
      have HO309 := n3_
      have HO_0 := n4_
      have HO_276001 := n5_
      have BK275 := n6_
      have HB := n7_
      clear n0_ n1_ n2_ n3_ n4_ n5_ n6_ n7_
      have hHeld : w51.cell? ⟨gb275, 0, none⟩ = some (.int .i64 a1_0) ∧ w51.cell? ⟨gb275, 1, none⟩ = some (.slice A1_1 l1_1.length c1_1) ∧ w51.cell? ⟨gb275, 2, none⟩ = some (.int .i64 a1_2) := hS_
      obtain ⟨Ao53, co53, eo53⟩ := Kd.N_slice HO301.out
      (first | subst eo53 | (injection eo53 with f1_ f2_ f3_; have f4_ := f1_.symm; have f5_ := f3_.symm; clear f1_ f2_ f3_; subst f4_; subst f5_))
      refine norm_ (a' := ?_) ?_ ?_
      rotate_left
      · simp only [putAll, Act.put, List.setIfInBounds_toArray, List.set_cons_zero, List.set_cons_succ]
        rfl
      refine one_ (i := 7) (N := some 65) #[Y29,Y29,Y29,Y29,Y29,Y29,Y29,Y29,Y29,Y29,Y29,N29,N29] rfl rfl (one_of HT_.out (by kernel_rfl)) (by decide) (fun K hK => ?_)
      refine Kd.N_append_rows_step k36 (w0 := w) w.heap.size (by rfl) (.tmp 62) (.tmp 64) 28 36 (.agg #[(.int .i64 0), (.slice none 0 0), (.int .i64 0)]) 40 rfl Tryd.underlying28 info36 rfl (by decide) (by omega) v297 y296 y299 _ _ _ (fun k_ => ((P0_ k_ ∨ P1_1_ k_) ∨ w.heap.size ≤ k_) ∧ k_ ≠ gb275) (fun k_ => ((fun k_ => ((P0_ k_ ∨ P1_1_ k_) ∨ w.heap.size ≤ k_) ∧ k_ ≠ gb275)) k_ ∧ some k_ ≠ (v297 : Value).ownBlock) rfl rfl ?aO ?aR (fun _ hk => hk) ?aF ?aB ?aS ?aL ?_
      (case aR => exact (by skip; exact Kd.N_F (Kd.N_mono (ok' := (fun k_ => ((fun k_ => ((P0_ k_ ∨ P1_1_ k_) ∨ w.heap.size ≤ k_) ∧ k_ ≠ gb275)) k_ ∧ some k_ ≠ (v297 : Value).ownBlock)) (HO301.out) (fun k_ hk => ⟨⟨hk.1, hk.2.2⟩, hk.2.1⟩))))
      (case aB => exact (by exact wS HB.out GE275.out))
      (case aF => exact (fun k_ hk => ⟨(.inr (Nat.le_trans (below_size (by exact wS HB.out GE275.out)) hk)), Kd.freshB (g := gb275) (o := .cells #[.int .i64 a1_0, .slice A1_1 l1_1.length c1_1, .int .i64 a1_2] 36 (0, 0)) (by (with_reducible repeat (first | refine blk_drewN ?_ _ | refine blk_drew ?_ | refine blk_alloc ?_ _)); exact BK275.out) k_ hk⟩))
      (case aO => exact (by exact nU (Kd.N_mono HO298.out (fun _ hk => ⟨hk.1, hk.2.2⟩))))
      (case aS => exact (below_size (by exact wS HB.out GE275.out)))
      (case aL => have := LMc39.out; omega)
      intro v303 w52 ho hb hg hat
      rw [← Ny302.out] at ho
      have n0_ := Aside0.mk (Kd.V_afterv (ok := (fun k_ => ((P0_ k_ ∨ P1_1_ k_) ∨ w.heap.size ≤ k_) ∧ some k_ ≠ (.slice Ao53 y299.length co53 : Value).ownBlock ∧ k_ ≠ gb275)) (by exact vU (Kd.V_mono HO_0.out (fun _ hk => ⟨⟨hk.1, ⟨hk.2.2.1, hk.2.2.2⟩⟩, hk.2.1⟩))) hg hat)
      have n1_ := Aside0.mk (Kd.V_afterv (ok := (fun k_ => ((P0_ k_ ∨ P1_1_ k_) ∨ w.heap.size ≤ k_) ∧ some k_ ≠ (.slice Ao53 y299.length co53 : Value).ownBlock ∧ k_ ≠ gb275)) (by exact vU (Kd.V_mono HO_276001.out (fun _ hk => ⟨⟨hk.1, ⟨hk.2.2.1, hk.2.2.2⟩⟩, hk.2.1⟩))) hg hat)
      have n2_ := Aside0.mk (blk_grown (g := gb275) (o := .cells #[.int .i64 a1_0, .slice A1_1 l1_1.length c1_1, .int .i64 a1_2] 36 (0, 0)) (by (with_reducible repeat (first | refine blk_drewN ?_ _ | refine blk_drew ?_ | refine blk_alloc ?_ _)); exact BK275.out) hg (Kd.N_away HO298.out (fun _ hk => hk.2.2)))
      have n3_ := Aside0.mk (Kd.V_afterv (ok := (fun k_ => ((P0_ k_ ∨ P1_1_ k_) ∨ w.heap.size ≤ k_) ∧ some k_ ≠ (.slice Ao53 y299.length co53 : Value).ownBlock ∧ k_ ≠ gb275)) (by exact vU (Kd.V_mono HO295.out (fun _ hk => ⟨⟨hk.1, ⟨hk.2.2.1, hk.2.2.2⟩⟩, hk.2.1⟩))) hg hat)
      have n4_ := Aside0.mk (Kd.V_afterv (ok := (fun k_ => ((P0_ k_ ∨ P1_1_ k_) ∨ w.heap.size ≤ k_) ∧ some k_ ≠ (.slice Ao53 y299.length co53 : Value).ownBlock ∧ k_ ≠ gb275)) (by exact vU (Kd.V_mono HO309.out (fun _ hk => ⟨⟨hk.1, ⟨hk.2.2.1, hk.2.2.2⟩⟩, hk.2.1⟩))) hg hat)
      have n5_ := Aside0.mk (Kd.N_afterv (ok := (fun k_ => ((P0_ k_ ∨ P1_1_ k_) ∨ w.heap.size ≤ k_) ∧ k_ ≠ gb275)) (by exact nU (Kd.N_mono HO301.out (fun _ hk => ⟨⟨hk.1, hk.2.2⟩, hk.2.1⟩))) hg hat)
      have n6_ := Aside0.mk (hb)
      have n7_ := Aside0.mk (ho)
      clear HO_0 HO_276001 BK275 HO295 HO309 HO301 HB HO298
      have HO_0 := n0_
      have HO_276001 := n1_
      have BK275 := n2_
      have HO295 := n3_
      have HO309 := n4_
      have HO301 := n5_
      have HB := n6_
      have HO304 := n7_
      clear n0_ n1_ n2_ n3_ n4_ n5_ n6_ n7_ ho hb hg hat
      refine hK.out _ _ ⟨(blk_cell BK275.out 0).trans rfl, (blk_cell BK275.out 1).trans rfl, (blk_cell BK275.out 2).trans rfl⟩ (fun hHeld => ?_)
      clear hK K
      refine norm_ (a' := ?_) ?_ ?_
      rotate_left
      · show Act.put _ (some 65) _ = _
        simp only [pq29]
        rfl
      refine one_ (i := 11) (N := some 69) #[Y29,Y29,Y29,Y29,Y29,Y29,Y29,Y29,Y29,Y29,Y29,Y29,N29] rfl rfl (one_of HT_.out (by kernel_rfl)) (by decide) (fun K hK => ?_)
      refine Kd.N_append_rows_step k36 (w0 := w) w.heap.size (by rfl) (.tmp 65) (.tmp 68) 28 36 (.agg #[(.int .i64 0), (.slice none 0 0), (.int .i64 0)]) 40 rfl Tryd.underlying28 info36 rfl (by decide) (by omega) v303 y302 y305 _ _ _ (fun k_ => ((P0_ k_ ∨ P1_1_ k_) ∨ w.heap.size ≤ k_) ∧ k_ ≠ gb275) (fun k_ => ((fun k_ => ((P0_ k_ ∨ P1_1_ k_) ∨ w.heap.size ≤ k_) ∧ k_ ≠ gb275)) k_ ∧ some k_ ≠ (v303 : Value).ownBlock) rfl rfl ?aO ?aR (fun _ hk => hk) ?aF ?aB ?aS ?aL ?_
      (case aR => exact (by skip; exact Kd.V_F (Kd.V_mono (ok' := (fun k_ => ((fun k_ => ((P0_ k_ ∨ P1_1_ k_) ∨ w.heap.size ≤ k_) ∧ k_ ≠ gb275)) k_ ∧ some k_ ≠ (v303 : Value).ownBlock)) (HO309.out) (fun k_ hk => ⟨⟨hk.1.1, hk.1.2.2⟩, hk.2⟩))))
      (case aB => exact (by exact wS HB.out GE275.out))
      (case aF => exact (fun k_ hk => ⟨(.inr (Nat.le_trans (below_size (by exact wS HB.out GE275.out)) hk)), Kd.freshB (g := gb275) (o := .cells #[.int .i64 a1_0, .slice A1_1 l1_1.length c1_1, .int .i64 a1_2] 36 (0, 0)) (by (with_reducible repeat (first | refine blk_drewN ?_ _ | refine blk_drew ?_ | refine blk_alloc ?_ _)); exact BK275.out) k_ hk⟩))
      (case aO => exact (by exact nU HO304.out))
      (case aS => exact (below_size (by exact wS HB.out GE275.out)))
      (case aL => have := LMc42.out; omega)
      intro v311 w54 ho hb hg hat
      rw [← Ny310.out] at ho
      have n0_ := Aside0.mk (Kd.V_afterv (ok := (fun k_ => ((P0_ k_ ∨ P1_1_ k_) ∨ w.heap.size ≤ k_) ∧ some k_ ≠ (.slice Ao53 y299.length co53 : Value).ownBlock ∧ k_ ≠ gb275)) (by exact vU HO_0.out) hg hat)
      have n1_ := Aside0.mk (Kd.V_afterv (ok := (fun k_ => ((P0_ k_ ∨ P1_1_ k_) ∨ w.heap.size ≤ k_) ∧ some k_ ≠ (.slice Ao53 y299.length co53 : Value).ownBlock ∧ k_ ≠ gb275)) (by exact vU HO_276001.out) hg hat)
      have n2_ := Aside0.mk (blk_grown (g := gb275) (o := .cells #[.int .i64 a1_0, .slice A1_1 l1_1.length c1_1, .int .i64 a1_2] 36 (0, 0)) (by (with_reducible repeat (first | refine blk_drewN ?_ _ | refine blk_drew ?_ | refine blk_alloc ?_ _)); exact BK275.out) hg (Kd.N_away HO304.out (fun _ hk => hk.2)))
      have n3_ := Aside0.mk (Kd.V_afterv (ok := (fun k_ => ((P0_ k_ ∨ P1_1_ k_) ∨ w.heap.size ≤ k_) ∧ some k_ ≠ (.slice Ao53 y299.length co53 : Value).ownBlock ∧ k_ ≠ gb275)) (by exact vU HO295.out) hg hat)
      have n4_ := Aside0.mk (Kd.V_afterv (ok := (fun k_ => ((P0_ k_ ∨ P1_1_ k_) ∨ w.heap.size ≤ k_) ∧ some k_ ≠ (.slice Ao53 y299.length co53 : Value).ownBlock ∧ k_ ≠ gb275)) (by exact vU HO309.out) hg hat)
      have n5_ := Aside0.mk (Kd.N_afterv (ok := (fun k_ => ((P0_ k_ ∨ P1_1_ k_) ∨ w.heap.size ≤ k_) ∧ k_ ≠ gb275)) (by exact nU HO301.out) hg hat)
      have n6_ := Aside0.mk (hb)
      have n7_ := Aside0.mk (ho)
      clear HO_0 HO_276001 BK275 HO295 HO309 HO301 HB HO304
      have HO_0 := n0_
      have HO_276001 := n1_
      have BK275 := n2_
      have HO295 := n3_
      have HO309 := n4_
      have HO301 := n5_
      have HB := n6_
      have HO312 := n7_
      clear n0_ n1_ n2_ n3_ n4_ n5_ n6_ n7_ ho hb hg hat
      refine hK.out _ _ ⟨(blk_cell BK275.out 0).trans rfl, (blk_cell BK275.out 1).trans rfl, (blk_cell BK275.out 2).trans rfl⟩ (fun hHeld => ?_)
      clear hK K
      refine norm_ (a' := ?_) ?_ ?_
      rotate_left
      · show Act.put _ (some 69) _ = _
        simp only [pq29]
        rfl
      refine pure_ (i := 12) (N := some 4) (v := ?_) (a' := ?_) #[Y29,Y29,Y29,Y29,Y29,Y29,Y29,Y29,Y29,Y29,Y29,Y29,Y29] rfl rfl (any_of HT_.out (by kernel_rfl)) (fun _ _ _ h => h) (Or.inl ⟨by rfl, ?_⟩) ?_ ?_; rotate_left; (intro w'; go_simp; with_reducible rfl); rotate_left; (simp only [pq29]; rfl)
      refine done_ (done_of HT_.out (by kernel_rfl)) ?_
      try go_wp2
      go_ret
      exact ⟨_, by first | rfl | (simp [errW_none, errW_some] <;> rfl) | (simp [*, errW_none, errW_some] <;> rfl), Kd.N_V (by exact nU (Kd.N_mono HO312.out (fun _ hk => hk.1))), by exact wS HB.out GE275.out⟩
theorem V_ok {α : Type} {d : Kd α} {e base n c : Nat} {W : World} {ok : Nat → Prop} {ad : Addr} {xs : List α} (h : Kd.V d e W base ok (.slice (some ad) n c) xs) (hs : 0 < d.sz) (hn : 0 < n) : ok ad.block := by
  have hf := Kd.V_F h
  have hl : n = xs.length := (Kd.V_reads' h).1
  cases xs with
  | nil => simp at hl; omega
  | cons z xs =>
    obtain ⟨ad', c', he, _, _, _, hk⟩ := Kd.F_get hf z 0 (by omega) (by omega)
    injection he with he
    subst he
    exact hk hs
theorem vpos {n : Nat} {i : Int} (h1 : decide (i < (n : Int)) = true) (h0 : decide (0 ≤ i) = true) : 0 < n := by
  have a := of_decide_eq_true h1
  have b := of_decide_eq_true h0
  omega
end Go.Proofs.YtlgndfplikhflaaDoor.G
