import Derived.Test.YtgbnfjhmobeloaaGx0
import Derived.Test.YtgbnfjhmobeloaaGx6
namespace Go.Proofs.Ytgbnfjhmobeloaa.G
open Go.RowKit Go.Proofs.YtgbnfjhmobeloaaW.PrintWords Go.Proofs.YtgbnfjhmobeloaaW.PrintLast Go.Proofs.YtgbnfjhmobeloaaW.PrintMore Go.Proofs.YtgbnfjhmobeloaaW.VWords
attribute [local go_sem] max2_int min2_int max_two min_two max_three min_three max_four min_four
set_option linter.unusedVariables false
set_option linter.unusedSimpArgs false
def fold_rows.f  : Option ((List (S114))) := some (([(⟨9, 9, 32, 0⟩ : S114), (⟨160, 160, 32, 0⟩ : S114), (⟨8192, 8202, 32, 0⟩ : S114), (⟨8239, 8239, 32, 0⟩ : S114), (⟨8287, 8287, 32, 0⟩ : S114), (⟨12288, 12288, 32, 0⟩ : S114), (⟨8208, 8213, 45, 0⟩ : S114), (⟨8722, 8722, 45, 0⟩ : S114), (⟨8216, 8217, 39, 0⟩ : S114), (⟨700, 700, 39, 0⟩ : S114), (⟨1632, 1641, 48, 1⟩ : S114), (⟨1776, 1785, 48, 1⟩ : S114), (⟨2406, 2415, 48, 1⟩ : S114), (⟨65, 90, 97, 1⟩ : S114), (⟨192, 214, 224, 1⟩ : S114), (⟨216, 222, 248, 1⟩ : S114), (⟨913, 929, 945, 1⟩ : S114), (⟨931, 937, 963, 1⟩ : S114), (⟨1040, 1071, 1072, 1⟩ : S114), (⟨1024, 1039, 1104, 1⟩ : S114)] : List (S114)))
set_option maxHeartbeats 8000000 in
set_option maxRecDepth 100000 in
theorem fold_rows.calls  (r : List (S114)) (w : World) (h : fold_rows.f  = some r) :
  Calls Try.prog 75 #[] w fun e w' => ∃ v0_ : Value, e = .returned (v0_) ∧ Kd.R k114 114 w' w.heap.size (fun _ => True) v0_ r ∧ Below w.heap.size w w' := by
 have hu114 := Try.underlying114
 have HB := Aside0.mk (Below.refl w.heap.size w)
 have H : (some (([(⟨9, 9, 32, 0⟩ : S114), (⟨160, 160, 32, 0⟩ : S114), (⟨8192, 8202, 32, 0⟩ : S114), (⟨8239, 8239, 32, 0⟩ : S114), (⟨8287, 8287, 32, 0⟩ : S114), (⟨12288, 12288, 32, 0⟩ : S114), (⟨8208, 8213, 45, 0⟩ : S114), (⟨8722, 8722, 45, 0⟩ : S114), (⟨8216, 8217, 39, 0⟩ : S114), (⟨700, 700, 39, 0⟩ : S114), (⟨1632, 1641, 48, 1⟩ : S114), (⟨1776, 1785, 48, 1⟩ : S114), (⟨2406, 2415, 48, 1⟩ : S114), (⟨65, 90, 97, 1⟩ : S114), (⟨192, 214, 224, 1⟩ : S114), (⟨216, 222, 248, 1⟩ : S114), (⟨913, 929, 945, 1⟩ : S114), (⟨931, 937, 963, 1⟩ : S114), (⟨1040, 1071, 1072, 1⟩ : S114), (⟨1024, 1039, 1104, 1⟩ : S114)] : List (S114)))) = some r := h
 clear h
 obtain ⟨y133, hy133⟩ : ∃ y_ : List (S114), y_ = (([(⟨9, 9, 32, 0⟩ : S114), (⟨160, 160, 32, 0⟩ : S114), (⟨8192, 8202, 32, 0⟩ : S114), (⟨8239, 8239, 32, 0⟩ : S114), (⟨8287, 8287, 32, 0⟩ : S114), (⟨12288, 12288, 32, 0⟩ : S114), (⟨8208, 8213, 45, 0⟩ : S114), (⟨8722, 8722, 45, 0⟩ : S114), (⟨8216, 8217, 39, 0⟩ : S114), (⟨700, 700, 39, 0⟩ : S114), (⟨1632, 1641, 48, 1⟩ : S114), (⟨1776, 1785, 48, 1⟩ : S114), (⟨2406, 2415, 48, 1⟩ : S114), (⟨65, 90, 97, 1⟩ : S114), (⟨192, 214, 224, 1⟩ : S114), (⟨216, 222, 248, 1⟩ : S114), (⟨913, 929, 945, 1⟩ : S114), (⟨931, 937, 963, 1⟩ : S114), (⟨1040, 1071, 1072, 1⟩ : S114), (⟨1024, 1039, 1104, 1⟩ : S114)] : List (S114))) := ⟨_, rfl⟩
 replace H : (some y133) = some r := by first | (rw [hy133]; with_reducible exact H) | (have H2_ := (Option.bind_some _ _).symm.trans H; rw [hy133]; with_reducible exact H2_) | (have H2_ := (Option.bind_some _ _).symm.trans H; with_reducible exact H2_) | with_reducible exact H | (rw [hy133]; exact H) | exact H
 have Ny133 := Aside0.mk hy133
 clear hy133
 obtain rfl := Option.some.inj H
 go_enter Try.func75, Try.ntmps75
 go_wp2_with (first | ((with_reducible refine gate_dst (N := 21) rfl ?_); refine Kd.R_lit k114 _ 114 ?hg (N := 21) ?hd (xs := ([(⟨9, 9, 32, 0⟩ : S114), (⟨160, 160, 32, 0⟩ : S114), (⟨8192, 8202, 32, 0⟩ : S114), (⟨8239, 8239, 32, 0⟩ : S114), (⟨8287, 8287, 32, 0⟩ : S114), (⟨12288, 12288, 32, 0⟩ : S114), (⟨8208, 8213, 45, 0⟩ : S114), (⟨8722, 8722, 45, 0⟩ : S114), (⟨8216, 8217, 39, 0⟩ : S114), (⟨700, 700, 39, 0⟩ : S114), (⟨1632, 1641, 48, 1⟩ : S114), (⟨1776, 1785, 48, 1⟩ : S114), (⟨2406, 2415, 48, 1⟩ : S114), (⟨65, 90, 97, 1⟩ : S114), (⟨192, 214, 224, 1⟩ : S114), (⟨216, 222, 248, 1⟩ : S114), (⟨913, 929, 945, 1⟩ : S114), (⟨931, 937, 963, 1⟩ : S114), (⟨1040, 1071, 1072, 1⟩ : S114), (⟨1024, 1039, 1104, 1⟩ : S114)] : List (S114))) (inner := [.int .i64 9, .int .i64 9, .int .i64 32, .int .i64 0, .int .i64 160, .int .i64 160, .int .i64 32, .int .i64 0, .int .i64 8192, .int .i64 8202, .int .i64 32, .int .i64 0, .int .i64 8239, .int .i64 8239, .int .i64 32, .int .i64 0, .int .i64 8287, .int .i64 8287, .int .i64 32, .int .i64 0, .int .i64 12288, .int .i64 12288, .int .i64 32, .int .i64 0, .int .i64 8208, .int .i64 8213, .int .i64 45, .int .i64 0, .int .i64 8722, .int .i64 8722, .int .i64 45, .int .i64 0, .int .i64 8216, .int .i64 8217, .int .i64 39, .int .i64 0, .int .i64 700, .int .i64 700, .int .i64 39, .int .i64 0, .int .i64 1632, .int .i64 1641, .int .i64 48, .int .i64 1, .int .i64 1776, .int .i64 1785, .int .i64 48, .int .i64 1, .int .i64 2406, .int .i64 2415, .int .i64 48, .int .i64 1, .int .i64 65, .int .i64 90, .int .i64 97, .int .i64 1, .int .i64 192, .int .i64 214, .int .i64 224, .int .i64 1, .int .i64 216, .int .i64 222, .int .i64 248, .int .i64 1, .int .i64 913, .int .i64 929, .int .i64 945, .int .i64 1, .int .i64 931, .int .i64 937, .int .i64 963, .int .i64 1, .int .i64 1040, .int .i64 1071, .int .i64 1072, .int .i64 1, .int .i64 1024, .int .i64 1039, .int .i64 1104, .int .i64 1]) (ok := fun _ => True) (okp := fun _ => True) ?hr ?hp (fun _ hk => hk) trivial (Below.refl _ _) (Nat.le_refl _) (by simp) ?_; (case hd => rfl); (case hg => rfl); (case hr => first | (go_simp; done) | (go_simp; rfl)); (case hp => exact (Reps.c4 (show Kd.M k114 _ _ _ (⟨9, 9, 32, 0⟩ : S114) [.int .i64 9, .int .i64 9, .int .i64 32, .int .i64 0] from (k114_mkM _ _ _ (⟨9, 9, 32, 0⟩ : S114) )) (Reps.c4 (show Kd.M k114 _ _ _ (⟨160, 160, 32, 0⟩ : S114) [.int .i64 160, .int .i64 160, .int .i64 32, .int .i64 0] from (k114_mkM _ _ _ (⟨160, 160, 32, 0⟩ : S114) )) (Reps.c4 (show Kd.M k114 _ _ _ (⟨8192, 8202, 32, 0⟩ : S114) [.int .i64 8192, .int .i64 8202, .int .i64 32, .int .i64 0] from (k114_mkM _ _ _ (⟨8192, 8202, 32, 0⟩ : S114) )) (Reps.c4 (show Kd.M k114 _ _ _ (⟨8239, 8239, 32, 0⟩ : S114) [.int .i64 8239, .int .i64 8239, .int .i64 32, .int .i64 0] from (k114_mkM _ _ _ (⟨8239, 8239, 32, 0⟩ : S114) )) (Reps.c4 (show Kd.M k114 _ _ _ (⟨8287, 8287, 32, 0⟩ : S114) [.int .i64 8287, .int .i64 8287, .int .i64 32, .int .i64 0] from (k114_mkM _ _ _ (⟨8287, 8287, 32, 0⟩ : S114) )) (Reps.c4 (show Kd.M k114 _ _ _ (⟨12288, 12288, 32, 0⟩ : S114) [.int .i64 12288, .int .i64 12288, .int .i64 32, .int .i64 0] from (k114_mkM _ _ _ (⟨12288, 12288, 32, 0⟩ : S114) )) (Reps.c4 (show Kd.M k114 _ _ _ (⟨8208, 8213, 45, 0⟩ : S114) [.int .i64 8208, .int .i64 8213, .int .i64 45, .int .i64 0] from (k114_mkM _ _ _ (⟨8208, 8213, 45, 0⟩ : S114) )) (Reps.c4 (show Kd.M k114 _ _ _ (⟨8722, 8722, 45, 0⟩ : S114) [.int .i64 8722, .int .i64 8722, .int .i64 45, .int .i64 0] from (k114_mkM _ _ _ (⟨8722, 8722, 45, 0⟩ : S114) )) (Reps.c4 (show Kd.M k114 _ _ _ (⟨8216, 8217, 39, 0⟩ : S114) [.int .i64 8216, .int .i64 8217, .int .i64 39, .int .i64 0] from (k114_mkM _ _ _ (⟨8216, 8217, 39, 0⟩ : S114) )) (Reps.c4 (show Kd.M k114 _ _ _ (⟨700, 700, 39, 0⟩ : S114) [.int .i64 700, .int .i64 700, .int .i64 39, .int .i64 0] from (k114_mkM _ _ _ (⟨700, 700, 39, 0⟩ : S114) )) (Reps.c4 (show Kd.M k114 _ _ _ (⟨1632, 1641, 48, 1⟩ : S114) [.int .i64 1632, .int .i64 1641, .int .i64 48, .int .i64 1] from (k114_mkM _ _ _ (⟨1632, 1641, 48, 1⟩ : S114) )) (Reps.c4 (show Kd.M k114 _ _ _ (⟨1776, 1785, 48, 1⟩ : S114) [.int .i64 1776, .int .i64 1785, .int .i64 48, .int .i64 1] from (k114_mkM _ _ _ (⟨1776, 1785, 48, 1⟩ : S114) )) (Reps.c4 (show Kd.M k114 _ _ _ (⟨2406, 2415, 48, 1⟩ : S114) [.int .i64 2406, .int .i64 2415, .int .i64 48, .int .i64 1] from (k114_mkM _ _ _ (⟨2406, 2415, 48, 1⟩ : S114) )) (Reps.c4 (show Kd.M k114 _ _ _ (⟨65, 90, 97, 1⟩ : S114) [.int .i64 65, .int .i64 90, .int .i64 97, .int .i64 1] from (k114_mkM _ _ _ (⟨65, 90, 97, 1⟩ : S114) )) (Reps.c4 (show Kd.M k114 _ _ _ (⟨192, 214, 224, 1⟩ : S114) [.int .i64 192, .int .i64 214, .int .i64 224, .int .i64 1] from (k114_mkM _ _ _ (⟨192, 214, 224, 1⟩ : S114) )) (Reps.c4 (show Kd.M k114 _ _ _ (⟨216, 222, 248, 1⟩ : S114) [.int .i64 216, .int .i64 222, .int .i64 248, .int .i64 1] from (k114_mkM _ _ _ (⟨216, 222, 248, 1⟩ : S114) )) (Reps.c4 (show Kd.M k114 _ _ _ (⟨913, 929, 945, 1⟩ : S114) [.int .i64 913, .int .i64 929, .int .i64 945, .int .i64 1] from (k114_mkM _ _ _ (⟨913, 929, 945, 1⟩ : S114) )) (Reps.c4 (show Kd.M k114 _ _ _ (⟨931, 937, 963, 1⟩ : S114) [.int .i64 931, .int .i64 937, .int .i64 963, .int .i64 1] from (k114_mkM _ _ _ (⟨931, 937, 963, 1⟩ : S114) )) (Reps.c4 (show Kd.M k114 _ _ _ (⟨1040, 1071, 1072, 1⟩ : S114) [.int .i64 1040, .int .i64 1071, .int .i64 1072, .int .i64 1] from (k114_mkM _ _ _ (⟨1040, 1071, 1072, 1⟩ : S114) )) (Reps.c4 (show Kd.M k114 _ _ _ (⟨1024, 1039, 1104, 1⟩ : S114) [.int .i64 1024, .int .i64 1039, .int .i64 1104, .int .i64 1] from (k114_mkM _ _ _ (⟨1024, 1039, 1104, 1⟩ : S114) )) (Reps.none _ _)))))))))))))))))))))); intro v134 w1 ho2 hb hg_ hnew_; clear hg_ hnew_; (first | rw [← Ny133.out] at ho2 | (simp only [Int.reduceToNat] at ho2; rw [← Ny133.out] at ho2)); have n0_ := Aside0.mk (Kd.R_lower ho2 (below_size (by exact wU HB.out))); have n1_ := Aside0.mk (below_step (by exact wU HB.out) hb); clear HB; have HO135 := n0_; have HB := n1_; clear n0_ n1_; clear hb ho2))
 go_ret
 exact ⟨_, by first | rfl | (simp [errW_none, errW_some] <;> rfl) | (simp [*, errW_none, errW_some] <;> rfl), by exact rU HO135.out, by exact wU HB.out⟩
mutual
def fold_Rune.j0 : Nat → Int → Bool → Option (Int)
 | 0, _, _ => none
 | k + 1, x0, x13 => if x13 = true then (fold_Rune.j1 k (wrap64 (x0 - 65248))) else (fold_Rune.j1 k x0)
def fold_Rune.j1 : Nat → Int → Option (Int)
 | 0, _ => none
 | k + 1, x0 => (fold_rows.f).bind fun t136 => (fold_Rune.l0 k x0 t136 (t136.length : Int) 0)
def fold_Rune.l0 : Nat → Int → List (S114) → Int → Int → Option (Int)
 | 0, _, _, _, _ => none
 | k + 1, x0, x16, x17, x18 => if x18 < x17 then (if 0 ≤ x18 then (if x18 < (x16.length : Int) then ((fold_row_of.f ((rd_T114 x16 x18).f0) ((rd_T114 x16 x18).f1) ((rd_T114 x16 x18).f2) ((rd_T114 x16 x18).f3) x0).bind fun bt141 => (if bt141.2 = true then (some bt141.1) else (fold_Rune.l0 k x0 x16 x17 (wrap64 (x18 + 1))))) else (none)) else (none)) else (some x0)
end
def fold_Rune.f (k : Nat) (a0 : Int) : Option (Int) := if a0 ≥ 65281 then (fold_Rune.j0 k a0 (decide (a0 ≤ 65374))) else (fold_Rune.j0 k a0 false)
theorem fold_Rune.mono_l : ∀ k, (∀ y0 y1, LeO (fold_Rune.j0 k y0 y1) (fold_Rune.j0 (k + 1) y0 y1)) ∧ (∀ y0, LeO (fold_Rune.j1 k y0) (fold_Rune.j1 (k + 1) y0)) ∧ (∀ y0 y1 y2 y3, LeO (fold_Rune.l0 k y0 y1 y2 y3) (fold_Rune.l0 (k + 1) y0 y1 y2 y3))
 | 0 => ⟨fun _ _ r h => by simp [fold_Rune.j0] at h, fun _ r h => by simp [fold_Rune.j1] at h, fun _ _ _ _ r h => by simp [fold_Rune.l0] at h⟩
 | k + 1 => by
  obtain ⟨ih0, ih1, ih2⟩ := fold_Rune.mono_l k
  refine ⟨?_, ?_, ?_⟩
  ·intro y0 y1
   unfold fold_Rune.j0
   repeat' first
   | (with_reducible exact ih0 _ _)
   | (with_reducible exact ih1 _)
   | (with_reducible exact ih2 _ _ _ _)
   | (with_reducible exact LeO.refl _)
   | (with_reducible exact LeO.none _)
   | (with_reducible refine LeO.ite ?_ ?_)
   | (with_reducible refine LeO.bind ?_ (fun _ => ?_))
   | exact ih0 _ _
   | exact ih1 _
   | exact ih2 _ _ _ _
   | exact LeO.none _
   | refine LeO.ite ?_ ?_
   | refine LeO.bind ?_ (fun _ => ?_)
  ·intro y0
   unfold fold_Rune.j1
   repeat' first
   | (with_reducible exact ih0 _ _)
   | (with_reducible exact ih1 _)
   | (with_reducible exact ih2 _ _ _ _)
   | (with_reducible exact LeO.refl _)
   | (with_reducible exact LeO.none _)
   | (with_reducible refine LeO.ite ?_ ?_)
   | (with_reducible refine LeO.bind ?_ (fun _ => ?_))
   | exact ih0 _ _
   | exact ih1 _
   | exact ih2 _ _ _ _
   | exact LeO.none _
   | refine LeO.ite ?_ ?_
   | refine LeO.bind ?_ (fun _ => ?_)
  ·intro y0 y1 y2 y3
   unfold fold_Rune.l0
   repeat' first
   | (with_reducible exact ih0 _ _)
   | (with_reducible exact ih1 _)
   | (with_reducible exact ih2 _ _ _ _)
   | (with_reducible exact LeO.refl _)
   | (with_reducible exact LeO.none _)
   | (with_reducible refine LeO.ite ?_ ?_)
   | (with_reducible refine LeO.bind ?_ (fun _ => ?_))
   | exact ih0 _ _
   | exact ih1 _
   | exact ih2 _ _ _ _
   | exact LeO.none _
   | refine LeO.ite ?_ ?_
   | refine LeO.bind ?_ (fun _ => ?_)
set_option maxHeartbeats 8000000 in
set_option maxRecDepth 100000 in
theorem fold_Rune.calls (k : Nat) (a0 : Int) (r : Int) (w : World) (h : fold_Rune.f k a0 = some r) :
  Calls Try.prog 55 #[.int .i64 a0] w fun e w' => e = .returned (.int .i64 r) ∧ Below w.heap.size w w' := by
 have hu114 := Try.underlying114
 have HB := Aside0.mk (Below.refl w.heap.size w)
 have H : (if a0 ≥ 65281 then (fold_Rune.j0 k a0 (decide (a0 ≤ 65374))) else (fold_Rune.j0 k a0 false)) = some r := h
 clear h
 have HC2 := Aside0.mk H
 clear H
 go_enter Try.func55, Try.ntmps55
 go_upto_region 1 with (fail)
 go_cut [13] (fun v13 wc => ∃ (kq : Nat) (x13_1 : Bool), v13 = .bool x13_1 ∧ Aside0 (fold_Rune.j0 kq a0 x13_1 = some r) ∧ Aside0 (kq ≤ k) ∧ Aside0 (Below w.heap.size w wc))
 case first =>
  have H := HC2.out
  clear HC2
  by_cases c3 : a0 ≥ 65281
  ·rw [if_pos c3] at H
   have c3b0 : decide (65281 ≤ a0) = true := decide_eq_true c3
   clear c3
   (first | rw [c3b0] | (simp only [i64_w, i32_w]; rw [c3b0]) | skip)
   have H' := Aside0.mk H
   clear H
   go_wp2
   go_meet
   case rel => exact ⟨_, (decide (a0 ≤ 65374)), (by first | rfl | (simp; done) | (simp [*]; done)), H', ⟨by first | omega | exact Nat.le_refl _⟩, ⟨by exact wU HB.out⟩⟩
  ·rw [if_neg c3] at H
   have c3b0 : decide (65281 ≤ a0) = false := decide_eq_false c3
   clear c3
   (first | rw [c3b0] | (simp only [i64_w, i32_w]; rw [c3b0]) | skip)
   have H' := Aside0.mk H
   clear H
   go_wp2
   go_meet
   case rel => exact ⟨_, (false), (by first | rfl | (simp; done) | (simp [*]; done)), H', ⟨by first | omega | exact Nat.le_refl _⟩, ⟨by exact wU HB.out⟩⟩
 case rest =>
  clear HC2
  try clear p2
  try clear c3
  try clear c3b0
  obtain ⟨kq, x13_1, rfl, HA, HJ1, HB⟩ := hcut
  cases kq with
  | zero => exact absurd HA.out (by simp [fold_Rune.j0])
  | succ kj1 =>
   have H := HA.out
   clear HA
   simp only [fold_Rune.j0] at H
   have HC4 := Aside0.mk H
   clear H
   go_upto_if 13 with (fail)
   go_cut [0] (fun v0 wc => ∃ (kq : Nat) (x0_3 : Int), v0 = .int .i64 x0_3 ∧ Aside0 (fold_Rune.j1 kq x0_3 = some r) ∧ Aside0 (kq ≤ kj1) ∧ Aside0 (Below w.heap.size w wc))
   case first =>
    have H := HC4.out
    clear HC4
    by_cases c5 : x13_1 = true
    ·subst c5
     have H1 : (fold_Rune.j1 kj1 (wrap64 (a0 - 65248))) = some r := by rw [if_pos rfl] at H; exact H
     clear H
     have H := H1
     clear H1
     have H' := Aside0.mk H
     clear H
     go_wp2
     go_meet
     case rel => exact ⟨_, (wrap64 (a0 - 65248)), (by first | rfl | (simp; done) | (simp [*]; done)), H', ⟨by have := HJ1.out; first | omega | exact Nat.le_refl _⟩, ⟨by exact wU HB.out⟩⟩
    ·replace c5 := Bool.eq_false_iff.mpr c5
     subst c5
     have H1 : (fold_Rune.j1 kj1 a0) = some r := by rw [if_neg (show ¬ (false = true) by decide)] at H; exact H
     clear H
     have H := H1
     clear H1
     have H' := Aside0.mk H
     clear H
     go_wp2
     go_meet
     case rel => exact ⟨_, (a0), (by first | rfl | (simp; done) | (simp [*]; done)), H', ⟨by have := HJ1.out; first | omega | exact Nat.le_refl _⟩, ⟨by exact wU HB.out⟩⟩
   case rest =>
    clear HC4
    try clear p2
    try clear c3
    try clear c3b0
    try clear c5
    try clear p2
    obtain ⟨kq, x0_3, rfl, HA, HJ3, HB⟩ := hcut
    cases kq with
    | zero => exact absurd HA.out (by simp [fold_Rune.j1])
    | succ kj3 =>
     have H := HA.out
     clear HA
     simp only [fold_Rune.j1] at H
     replace H := Option.bind_eq_some_iff.mp H
     obtain ⟨t136, A60, H⟩ := H
     replace H : (fold_Rune.l0 kj3 x0_3 t136 (t136.length : Int) 0) = some r := H
     have A6 := Aside0.mk A60
     clear A60
     have H' := Aside0.mk H
     clear H
     go_wp2_with (first | ((with_reducible refine gate_callee (f := 75) rfl ?_); refine goesL_ (some 16) rfl rfl Try.func75 (by kernel_rfl) rfl #[] rfl (by (try simp only [List.map_toArray, List.map_cons, List.map_nil]); first | done | rfl | (simp only [List.length_drop, List.length_take]; rfl)) ?_; (with_reducible refine (fold_rows.calls  t136 _ A6.out).mono ?_); rintro e w7 ⟨v137, rfl, ho0, hb⟩; refine ⟨_, rfl, ?_⟩; have n0_ := Aside0.mk (Kd.R_lower ho0 (below_size (by exact wU HB.out))); have n1_ := Aside0.mk (below_step (by exact wU HB.out) hb); clear HB; have HO138 := n0_; have HB := n1_; clear n0_ n1_; (try clear hb); (try clear hb2); (try clear hk); (try clear hi); (try clear ho0); obtain ⟨Ao8, co8, eo8⟩ := Kd.R_slice HO138.out; subst eo8))
     go_loopg [18] kj3 (fun kq v18 w' => ∃ (x18_3 : Int), v18 = .int .i64 x18_3 ∧ Aside0 (fold_Rune.l0 kq x0_3 t136 (t136.length : Int) x18_3 = some r) ∧ Aside0 (kq ≤ kj3) ∧ Aside0 (Kd.R k114 114 w' w.heap.size (fun _ => True) (.slice Ao8 t136.length co8) t136) ∧ Aside0 (Below w.heap.size w w'))
     case atStart => exact ⟨(0), (by first | rfl | (simp; done) | (simp [*]; done)), H', ⟨Nat.le_refl _⟩, ⟨by exact rU HO138.out⟩, ⟨by exact wU HB.out⟩⟩
     case round =>
      clear H'
      try clear p2
      try clear c3
      try clear c3b0
      try clear c5
      try clear p6
      try clear c7
      try clear p2
      obtain ⟨x18_3, rfl, HA, HK3, HO_16, HB⟩ := hrel
      cases gk with
      | zero => exact absurd HA.out (by simp [fold_Rune.l0])
      | succ k3 =>
       have H := HA.out
       clear HA
       simp only [fold_Rune.l0] at H
       by_cases c9 : x18_3 < (t136.length : Int)
       ·rw [if_pos c9] at H
        have c9b0 : decide (x18_3 < (t136.length : Int)) = true := decide_eq_true c9
        clear c9
        by_cases c10 : 0 ≤ x18_3
        ·rw [if_pos c10] at H
         have c10b0 : decide (0 ≤ x18_3) = true := decide_eq_true c10
         clear c10
         by_cases c11 : x18_3 < (t136.length : Int)
         ·rw [if_pos c11] at H
          have c11b0 : decide (x18_3 < (t136.length : Int)) = true := decide_eq_true c11
          clear c11
          replace H := Option.bind_eq_some_iff.mp H
          obtain ⟨⟨t141, t142⟩, A120, H⟩ := H
          replace H : (if t142 = true then (some t141) else (fold_Rune.l0 k3 x0_3 t136 (t136.length : Int) (wrap64 (x18_3 + 1)))) = some r := H
          have A12 := Aside0.mk A120
          clear A120
          by_cases c13 : t142 = true
          ·subst c13
           have H1 : (some t141) = some r := by rw [if_pos rfl] at H; exact H
           clear H
           have H := H1
           clear H1
           obtain rfl := Option.some.inj H
           have p139 : 0 ≤ (x18_3 : Int) := of_decide_eq_true (by first | (with_reducible assumption) | assumption)
           have q139 : x18_3 < (t136.length : Int) := of_decide_eq_true (by first | (with_reducible assumption) | assumption)
           obtain ⟨ad139, e139, hx139_0, hx139_1, hx139_2, hx139_3⟩ := at_T114 (Kd.R_reads' HO_16.out).2.2 x18_3 p139 q139
           cases e139
           replace p139 := eq_true p139
           replace q139 := eq_true q139
           go_wp2_with (first | ((with_reducible refine gate_dst (N := 5) rfl ?_); refine box_event ?hg (N := 5) ?hd (cs := #[.int .i64 0, .int .i64 0, .int .i64 0, .int .i64 0]) (t := 114) ?hr ?_; (case hd => rfl); (case hg => rfl); (case hr => first | (go_simp; done) | (go_simp; rfl)); intro gb140 hg w14 hbox hb; have n0_ := Aside0.mk (Kd.R_below (Kd.R_elderB (by exact rU HO_16.out) gb140 (Nat.le_of_eq hg.symm)) hb); have n1_ := Aside0.mk (below_step (by exact wU HB.out) hb); have n2_ := Aside0.mk (hbox); have n3_ := Aside0.mk ((by rw [hg]; exact (below_size (by exact wU HB.out)) : w.heap.size ≤ gb140)); have n4_ := Aside0.mk ((by rw [hg]; exact (below_size (by exact wU HB.out)) : w.heap.size ≤ gb140)); clear HO_16; clear HB; have HO_16 := n0_; have HB := n1_; have BK140 := n2_; have GW140 := n3_; have GE140 := n4_; clear n0_ n1_ n2_ n3_ n4_; clear hb hbox hg; have hcz15_0 : w14.cell? ⟨gb140, 0, none⟩ = some (.int .i64 0) := (blk_cell BK140.out 0).trans rfl; have hcz15_1 : w14.cell? ⟨gb140, 1, none⟩ = some (.int .i64 0) := (blk_cell BK140.out 1).trans rfl; have hcz15_2 : w14.cell? ⟨gb140, 2, none⟩ = some (.int .i64 0) := (blk_cell BK140.out 2).trans rfl; have hcz15_3 : w14.cell? ⟨gb140, 3, none⟩ = some (.int .i64 0) := (blk_cell BK140.out 3).trans rfl; have hfz15_0 := blk_frozen BK140.out 0; have hfz15_1 := blk_frozen BK140.out 1; have hfz15_2 := blk_frozen BK140.out 2; have hfz15_3 := blk_frozen BK140.out 3) | ((with_reducible refine gate_dyn (sl := 23) rfl ?_); refine goesV_ (some 26) rfl rfl 23 #[] #[] Try.func74 (by kernel_rfl) rfl #[.agg #[.int .i64 ((rd_T114 t136 x18_3).f0), .int .i64 ((rd_T114 t136 x18_3).f1), .int .i64 ((rd_T114 t136 x18_3).f2), .int .i64 ((rd_T114 t136 x18_3).f3)], .int .i64 x0_3] rfl rfl (by (try simp only [List.map_toArray, List.map_cons, List.map_nil]); first | done | rfl | (simp <;> rfl)) ?_; (with_reducible refine (fold_row_of.calls ((rd_T114 t136 x18_3).f0) ((rd_T114 t136 x18_3).f1) ((rd_T114 t136 x18_3).f2) ((rd_T114 t136 x18_3).f3) x0_3 t141 true _ A12.out).mono ?_); rintro e w16 ⟨rfl, hb⟩; refine ⟨_, rfl, ?_⟩; have n0_ := Aside0.mk (Kd.R_below (by exact rU ((Kd.R_mono (Kd.R_far (p := ⟨gb140, 3, none⟩) (Kd.R_far (p := ⟨gb140, 2, none⟩) (Kd.R_far (p := ⟨gb140, 1, none⟩) (Kd.R_far (p := ⟨gb140, 0, none⟩) (Kd.R_mono HO_16.out (fun k_ hk => (⟨hk, hk.2⟩ : _ ∧ k_ ≠ gb140))) (fun _ hk => hk.2) (.int .i64 ((rd_T114 t136 x18_3).f0))) (fun _ hk => hk.2) (.int .i64 ((rd_T114 t136 x18_3).f1))) (fun _ hk => hk.2) (.int .i64 ((rd_T114 t136 x18_3).f2))) (fun _ hk => hk.2) (.int .i64 ((rd_T114 t136 x18_3).f3))) (fun _ h_ => h_.1)))) hb); have n1_ := Aside0.mk (blk_below (g := gb140) (o := .cells #[.int .i64 ((rd_T114 t136 x18_3).f0), .int .i64 ((rd_T114 t136 x18_3).f1), .int .i64 ((rd_T114 t136 x18_3).f2), .int .i64 ((rd_T114 t136 x18_3).f3)] 114 (0, 0)) (by (with_reducible repeat (first | refine blk_drewN ?_ _ | refine blk_drew ?_ | refine blk_alloc ?_ _)); refine blk_put (cs := #[.int .i64 ((rd_T114 t136 x18_3).f0), .int .i64 ((rd_T114 t136 x18_3).f1), .int .i64 ((rd_T114 t136 x18_3).f2), .int .i64 0]) ?_ 3 _ rfl; (with_reducible repeat (first | refine blk_drewN ?_ _ | refine blk_drew ?_ | refine blk_alloc ?_ _)); refine blk_put (cs := #[.int .i64 ((rd_T114 t136 x18_3).f0), .int .i64 ((rd_T114 t136 x18_3).f1), .int .i64 0, .int .i64 0]) ?_ 2 _ rfl; (with_reducible repeat (first | refine blk_drewN ?_ _ | refine blk_drew ?_ | refine blk_alloc ?_ _)); refine blk_put (cs := #[.int .i64 ((rd_T114 t136 x18_3).f0), .int .i64 0, .int .i64 0, .int .i64 0]) ?_ 1 _ rfl; (with_reducible repeat (first | refine blk_drewN ?_ _ | refine blk_drew ?_ | refine blk_alloc ?_ _)); refine blk_put (cs := #[.int .i64 0, .int .i64 0, .int .i64 0, .int .i64 0]) ?_ 0 _ rfl; (with_reducible repeat (first | refine blk_drewN ?_ _ | refine blk_drew ?_ | refine blk_alloc ?_ _)); exact BK140.out) hb); have n2_ := Aside0.mk (below_step (by exact wS HB.out GE140.out) hb); clear HO_16; clear BK140; clear HB; have HO_16 := n0_; have BK140 := n1_; have HB := n2_; clear n0_ n1_ n2_; (try clear hb); (try clear hb2); (try clear hk); (try clear hi)))
           go_ret
           exact ⟨by first | rfl | (simp [errW_none, errW_some] <;> rfl) | (simp [*, errW_none, errW_some] <;> rfl), by exact wS HB.out GE140.out⟩
          ·replace c13 := Bool.eq_false_iff.mpr c13
           subst c13
           have H1 : (fold_Rune.l0 k3 x0_3 t136 (t136.length : Int) (wrap64 (x18_3 + 1))) = some r := by rw [if_neg (show ¬ (false = true) by decide)] at H; exact H
           clear H
           have H := H1
           clear H1
           have H' := Aside0.mk H
           clear H
           have p139 : 0 ≤ (x18_3 : Int) := of_decide_eq_true (by first | (with_reducible assumption) | assumption)
           have q139 : x18_3 < (t136.length : Int) := of_decide_eq_true (by first | (with_reducible assumption) | assumption)
           obtain ⟨ad139, e139, hx139_0, hx139_1, hx139_2, hx139_3⟩ := at_T114 (Kd.R_reads' HO_16.out).2.2 x18_3 p139 q139
           cases e139
           replace p139 := eq_true p139
           replace q139 := eq_true q139
           go_wp2_with (first | ((with_reducible refine gate_dst (N := 5) rfl ?_); refine box_event ?hg (N := 5) ?hd (cs := #[.int .i64 0, .int .i64 0, .int .i64 0, .int .i64 0]) (t := 114) ?hr ?_; (case hd => rfl); (case hg => rfl); (case hr => first | (go_simp; done) | (go_simp; rfl)); intro gb140 hg w17 hbox hb; have n0_ := Aside0.mk (Kd.R_below (Kd.R_elderB (by exact rU HO_16.out) gb140 (Nat.le_of_eq hg.symm)) hb); have n1_ := Aside0.mk (below_step (by exact wU HB.out) hb); have n2_ := Aside0.mk (hbox); have n3_ := Aside0.mk ((by rw [hg]; exact (below_size (by exact wU HB.out)) : w.heap.size ≤ gb140)); have n4_ := Aside0.mk ((by rw [hg]; exact (below_size (by exact wU HB.out)) : w.heap.size ≤ gb140)); clear HO_16; clear HB; have HO_16 := n0_; have HB := n1_; have BK140 := n2_; have GW140 := n3_; have GE140 := n4_; clear n0_ n1_ n2_ n3_ n4_; clear hb hbox hg; have hcz18_0 : w17.cell? ⟨gb140, 0, none⟩ = some (.int .i64 0) := (blk_cell BK140.out 0).trans rfl; have hcz18_1 : w17.cell? ⟨gb140, 1, none⟩ = some (.int .i64 0) := (blk_cell BK140.out 1).trans rfl; have hcz18_2 : w17.cell? ⟨gb140, 2, none⟩ = some (.int .i64 0) := (blk_cell BK140.out 2).trans rfl; have hcz18_3 : w17.cell? ⟨gb140, 3, none⟩ = some (.int .i64 0) := (blk_cell BK140.out 3).trans rfl; have hfz18_0 := blk_frozen BK140.out 0; have hfz18_1 := blk_frozen BK140.out 1; have hfz18_2 := blk_frozen BK140.out 2; have hfz18_3 := blk_frozen BK140.out 3) | ((with_reducible refine gate_dyn (sl := 23) rfl ?_); refine goesV_ (some 26) rfl rfl 23 #[] #[] Try.func74 (by kernel_rfl) rfl #[.agg #[.int .i64 ((rd_T114 t136 x18_3).f0), .int .i64 ((rd_T114 t136 x18_3).f1), .int .i64 ((rd_T114 t136 x18_3).f2), .int .i64 ((rd_T114 t136 x18_3).f3)], .int .i64 x0_3] rfl rfl (by (try simp only [List.map_toArray, List.map_cons, List.map_nil]); first | done | rfl | (simp <;> rfl)) ?_; (with_reducible refine (fold_row_of.calls ((rd_T114 t136 x18_3).f0) ((rd_T114 t136 x18_3).f1) ((rd_T114 t136 x18_3).f2) ((rd_T114 t136 x18_3).f3) x0_3 t141 false _ A12.out).mono ?_); rintro e w19 ⟨rfl, hb⟩; refine ⟨_, rfl, ?_⟩; have n0_ := Aside0.mk (Kd.R_below (by exact rU ((Kd.R_mono (Kd.R_far (p := ⟨gb140, 3, none⟩) (Kd.R_far (p := ⟨gb140, 2, none⟩) (Kd.R_far (p := ⟨gb140, 1, none⟩) (Kd.R_far (p := ⟨gb140, 0, none⟩) (Kd.R_mono HO_16.out (fun k_ hk => (⟨hk, hk.2⟩ : _ ∧ k_ ≠ gb140))) (fun _ hk => hk.2) (.int .i64 ((rd_T114 t136 x18_3).f0))) (fun _ hk => hk.2) (.int .i64 ((rd_T114 t136 x18_3).f1))) (fun _ hk => hk.2) (.int .i64 ((rd_T114 t136 x18_3).f2))) (fun _ hk => hk.2) (.int .i64 ((rd_T114 t136 x18_3).f3))) (fun _ h_ => h_.1)))) hb); have n1_ := Aside0.mk (blk_below (g := gb140) (o := .cells #[.int .i64 ((rd_T114 t136 x18_3).f0), .int .i64 ((rd_T114 t136 x18_3).f1), .int .i64 ((rd_T114 t136 x18_3).f2), .int .i64 ((rd_T114 t136 x18_3).f3)] 114 (0, 0)) (by (with_reducible repeat (first | refine blk_drewN ?_ _ | refine blk_drew ?_ | refine blk_alloc ?_ _)); refine blk_put (cs := #[.int .i64 ((rd_T114 t136 x18_3).f0), .int .i64 ((rd_T114 t136 x18_3).f1), .int .i64 ((rd_T114 t136 x18_3).f2), .int .i64 0]) ?_ 3 _ rfl; (with_reducible repeat (first | refine blk_drewN ?_ _ | refine blk_drew ?_ | refine blk_alloc ?_ _)); refine blk_put (cs := #[.int .i64 ((rd_T114 t136 x18_3).f0), .int .i64 ((rd_T114 t136 x18_3).f1), .int .i64 0, .int .i64 0]) ?_ 2 _ rfl; (with_reducible repeat (first | refine blk_drewN ?_ _ | refine blk_drew ?_ | refine blk_alloc ?_ _)); refine blk_put (cs := #[.int .i64 ((rd_T114 t136 x18_3).f0), .int .i64 0, .int .i64 0, .int .i64 0]) ?_ 1 _ rfl; (with_reducible repeat (first | refine blk_drewN ?_ _ | refine blk_drew ?_ | refine blk_alloc ?_ _)); refine blk_put (cs := #[.int .i64 0, .int .i64 0, .int .i64 0, .int .i64 0]) ?_ 0 _ rfl; (with_reducible repeat (first | refine blk_drewN ?_ _ | refine blk_drew ?_ | refine blk_alloc ?_ _)); exact BK140.out) hb); have n2_ := Aside0.mk (below_step (by exact wS HB.out GE140.out) hb); clear HO_16; clear BK140; clear HB; have HO_16 := n0_; have BK140 := n1_; have HB := n2_; clear n0_ n1_ n2_; (try clear hb); (try clear hb2); (try clear hk); (try clear hi)))
           go_roundg k3
           case measure => have := HJ1.out; have := HJ3.out; have := HK3.out; omega
           case rel => exact ⟨(wrap64 (x18_3 + 1)), (by first | rfl | (simp; done) | (simp [*]; done)), H', ⟨by have := HJ1.out; have := HJ3.out; have := HK3.out; omega⟩, ⟨by exact rU (Kd.R_mono HO_16.out (fun _ hk => trivial))⟩, ⟨by exact wS HB.out GE140.out⟩⟩
         ·rw [if_neg c11] at H
          exact absurd H (by simp)
        ·rw [if_neg c10] at H
         exact absurd H (by simp)
       ·rw [if_neg c9] at H
        have c9b0 : decide (x18_3 < (t136.length : Int)) = false := decide_eq_false c9
        clear c9
        obtain rfl := Option.some.inj H
        go_wp2
        go_ret
        exact ⟨by first | rfl | (simp [errW_none, errW_some] <;> rfl) | (simp [*, errW_none, errW_some] <;> rfl), by exact wU HB.out⟩
def runeP (a : Int) : Int :=
 let r := if 65281 ≤ a ∧ a ≤ 65374 then a - 65248 else a
 if r = 9 ∨ r = 160 ∨ (8192 ≤ r ∧ r ≤ 8202) ∨ r = 8239 ∨ r = 8287 ∨ r = 12288 then 32
 else if (8208 ≤ r ∧ r ≤ 8213) ∨ r = 8722 then 45
 else if r = 8216 ∨ r = 8217 ∨ r = 700 then 39
 else if 1632 ≤ r ∧ r ≤ 1641 then r - 1632 + 48
 else if 1776 ≤ r ∧ r ≤ 1785 then r - 1776 + 48
 else if 2406 ≤ r ∧ r ≤ 2415 then r - 2406 + 48
 else if (65 ≤ r ∧ r ≤ 90) ∨ (192 ≤ r ∧ r ≤ 222 ∧ r ≠ 215) ∨ (913 ≤ r ∧ r ≤ 937 ∧ r ≠ 930) ∨ (1040 ≤ r ∧ r ≤ 1071) then r + 32
 else if 1024 ≤ r ∧ r ≤ 1039 then r + 80
 else r
def signsFrom (s : ByteArray) : Nat → Nat → List (Nat × Nat)
 | 0, _ => []
 | fuel + 1, pos => if pos < s.size then (pos, (Utf8.decode s pos).1) :: signsFrom s fuel (pos + (Utf8.decode s pos).2) else []
def signsOf (s : ByteArray) : List (Nat × Nat) := signsFrom s s.size 0
theorem wrapIn (x : Int) (h0 : -9223372036854775808 ≤ x) (h1 : x ≤ 9223372036854775807) : wrap64 x = x := by
 unfold wrap64; omega
def scanP (x : Int) : List S114 → Int
 | [] => x
 | w :: ws => if w.f0 ≤ x ∧ x ≤ w.f1 then wrap64 (w.f2 + wrap64 (wrap64 (x - w.f0) * w.f3)) else scanP x ws
theorem scan_l0 (x : Int) (rows : List S114) (hn : rows.length < 1000000) : ∀ (d k i : Nat), i + d = rows.length → d < k →
  fold_Rune.l0 k x rows (rows.length : Int) (i : Int) = some (scanP x (rows.drop i)) := by
 intro d
 induction d with
 | zero =>
  intro k i hi hk
  obtain ⟨k, rfl⟩ : ∃ m, k = m + 1 := ⟨k - 1, by omega⟩
  simp only [fold_Rune.l0]
  rw [if_neg (by omega), List.drop_eq_nil_of_le (by omega)]
  rfl
 | succ d ih =>
  intro k i hi hk
  obtain ⟨k, rfl⟩ : ∃ m, k = m + 1 := ⟨k - 1, by omega⟩
  have hlt : i < rows.length := by omega
  simp only [fold_Rune.l0]
  rw [if_pos (by omega), if_pos (by omega), if_pos (by omega)]
  have hrd : rd_T114 rows (i : Int) = rows[i] := by
   unfold rd_T114
   simp [List.getElem?_eq_getElem hlt]
  rw [hrd, List.drop_eq_getElem_cons hlt]
  unfold fold_row_of.f
  have hw : wrap64 ((i : Int) + 1) = ((i + 1 : Nat) : Int) := by rw [wrapIn _ (by omega) (by omega)]; omega
  by_cases h0 : x < rows[i].f0
  ·rw [if_pos h0]
   simp only [Option.bind_some]
   rw [if_neg (by simp), hw, ih k (i + 1) (by omega) (by omega)]
   simp only [scanP]
   rw [if_neg (by omega)]
  ·rw [if_neg h0]
   by_cases h1 : x > rows[i].f1
   ·rw [if_pos h1]
    simp only [Option.bind_some]
    rw [if_neg (by simp), hw, ih k (i + 1) (by omega) (by omega)]
    simp only [scanP]
    rw [if_neg (by omega)]
   ·rw [if_neg h1]
    simp only [Option.bind_some]
    rw [if_pos trivial]
    simp only [scanP]
    rw [if_pos (by omega)]
theorem ite_cases {c : Prop} [Decidable c] {a b z : Int} (h1 : c → a = z) (h2 : ¬ c → b = z) : (if c then a else b) = z := by
 split
 ·exact h1 ‹_›
 ·exact h2 ‹_›
set_option maxHeartbeats 4000000 in
theorem scan_rows (a r : Int) (hr : r = if 65281 ≤ a ∧ a ≤ 65374 then a - 65248 else a) (rows : List S114) (h : fold_rows.f = some rows) : scanP r rows = runeP a := by
 unfold fold_rows.f at h
 obtain rfl := Option.some.inj h
 simp only [scanP]
 unfold runeP
 simp only [← hr]
 clear h hr
 repeat' (refine ite_cases (fun h => ?_) (fun h => ?_))
 all_goals (repeat (first | rw [if_pos (by omega)] | rw [if_neg (by omega)]))
 all_goals first | rfl | omega | (unfold wrap64; omega)
theorem rune_ok (a : Int) (h0 : -9223372036854775808 ≤ a) (h1 : a ≤ 9223372036854775807) : fold_Rune.f 40 a = some (runeP a) := by
 obtain ⟨rows, hrows⟩ : ∃ rows, fold_rows.f = some rows := ⟨_, rfl⟩
 have hlen : rows.length = 20 := by unfold fold_rows.f at hrows; obtain rfl := Option.some.inj hrows; rfl
 have key : ∀ r : Int, r = (if 65281 ≤ a ∧ a ≤ 65374 then a - 65248 else a) → fold_Rune.j1 39 r = some (runeP a) := by
  intro r hr
  simp only [fold_Rune.j1]
  rw [hrows]
  simp only [Option.bind_some]
  have := scan_l0 r rows (by omega) rows.length 38 0 (by omega) (by omega)
  rw [List.drop_zero] at this
  rw [← scan_rows a r hr rows hrows]
  exact this
 unfold fold_Rune.f
 by_cases c : a ≥ 65281
 ·rw [if_pos c]
  simp only [fold_Rune.j0]
  by_cases c2 : a ≤ 65374
  ·rw [decide_eq_true c2, if_pos rfl, wrapIn _ (by omega) (by omega)]
   exact key _ (by rw [if_pos ⟨c, c2⟩])
  ·rw [decide_eq_false c2, if_neg (by simp)]
   exact key _ (by rw [if_neg (fun h => c2 h.2)])
 ·rw [if_neg c]
  simp only [fold_Rune.j0]
  rw [if_neg (by simp)]
  exact key _ (by rw [if_neg (fun h => c h.1)])
theorem decode_pos (s : ByteArray) (pos : Nat) (h : pos < s.size) : 1 ≤ (Utf8.decode s pos).2 := by
 by_cases ha : (s[pos]'h).toNat < 128
 ·rw [decode_ascii s pos h ha]
  exact Nat.le_refl _
 ·exact (decode_high s pos h (by omega)).2
theorem signsFrom_more (s : ByteArray) : ∀ (fuel pos : Nat), ¬ pos < s.size → signsFrom s fuel pos = []
 | 0, _, _ => rfl
 | _ + 1, _, h => by simp [signsFrom, h]
end Go.Proofs.Ytgbnfjhmobeloaa.G
