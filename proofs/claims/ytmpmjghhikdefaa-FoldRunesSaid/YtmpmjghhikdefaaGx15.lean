-- printed by wip/tool/gprint.py, a program of this work, out of the translation; Lean checks it
import Derived.Test.YtmpmjghhikdefaaGx0
import Derived.Test.YtmpmjghhikdefaaGx2
import Derived.Test.YtmpmjghhikdefaaGx6
import Derived.Test.YtmpmjghhikdefaaGx9
namespace Go.Proofs.Ytmpmjghhikdefaa.G
open Go.RowKit Go.Proofs.YtmpmjghhikdefaaW.PrintWords Go.Proofs.YtmpmjghhikdefaaW.PrintLast Go.Proofs.YtmpmjghhikdefaaW.PrintMore Go.Proofs.YtmpmjghhikdefaaW.VWords
attribute [local go_sem] max2_int min2_int max_two min_two max_three min_three max_four min_four   -- for this text's walks alone
set_option linter.unusedVariables false
set_option linter.unusedSimpArgs false

/-! ### interlocutorlaw3_FoldRunes: function 4 -/
def interlocutorlaw3_FoldRunes.l0 : Nat → List Int → Int → Option (Bool)
  | 0, _, _ => none
  | k + 1, x6, x7 => if x7 < (x6.length : Int) then (if 0 ≤ x7 then ((fold_Rune.f k (rd x6 x7)).bind fun t273 => ((interlocutorref3_Rune.f k (rd x6 x7)).bind fun t275 => (if t273 = t275 then ((fold_Rune.f k t273).bind fun t276 => (if t276 = t273 then (interlocutorlaw3_FoldRunes.l0 k x6 (wrap64 (x7 + 1))) else (some false))) else (some false)))) else (none)) else (some true)
def interlocutorlaw3_FoldRunes.f (k : Nat) (a0 : Int) (a1 : Int) : Option (Bool) := (interlocutorlaw3_known.f k).bind fun t260 => (if t260 = true then ((some (([9, 65, 90, 160, 192, 215, 222, 700, 913, 930, 937, 1024, 1039, 1040, 1071, 1632, 1641, 1776, 1785, 2406, 2415, 8192, 8202, 8208, 8213, 8216, 8239, 8287, 8722, 12288, 65281, 65374, 65313, 65338] : List Int) : List Int)).bind fun y261 => ((interlocutorlaw3_within.f a0 69632).bind fun t264 => ((interlocutorlaw3_within.f a1 (y261.length : Int)).bind fun t265 => (if 0 ≤ t265 then (if t265 < (y261.length : Int) then ((interlocutorlaw3_within.f a0 3).bind fun t267 => ((interlocutorlaw3_within.f a0 1280).bind fun t268 => (interlocutorlaw3_FoldRunes.l0 k (([a0, t264, wrap64 ((wrap64 ((rd y261 t265) + t267)) - 1), t268] : List Int)) 0))) else (none)) else (none))))) else (some false))
theorem interlocutorlaw3_FoldRunes.mono_l : ∀ k, (∀ y0 y1, LeO (interlocutorlaw3_FoldRunes.l0 k y0 y1) (interlocutorlaw3_FoldRunes.l0 (k + 1) y0 y1))
  | 0 => fun _ _ r h => by simp [interlocutorlaw3_FoldRunes.l0] at h
  | k + 1 => by
    have ih0 := interlocutorlaw3_FoldRunes.mono_l k
    · intro y0 y1
      unfold interlocutorlaw3_FoldRunes.l0
      repeat' first
      | (with_reducible exact ih0 _ _)
      | (with_reducible exact fold_Rune.mono _ _)
      | (with_reducible exact interlocutorlaw3_known.mono _)
      | (with_reducible exact interlocutorref3_Rune.mono _ _)
      | (with_reducible exact LeO.refl _)
      | (with_reducible exact LeO.none _)
      | (with_reducible refine LeO.ite ?_ ?_)
      | (with_reducible refine LeO.bind ?_ (fun _ => ?_))
      | exact ih0 _ _
      | exact fold_Rune.mono _ _
      | exact interlocutorlaw3_known.mono _
      | exact interlocutorref3_Rune.mono _ _
      | exact LeO.none _
      | refine LeO.ite ?_ ?_
      | refine LeO.bind ?_ (fun _ => ?_)
theorem interlocutorlaw3_FoldRunes.mono : ∀ a0 a1 k, LeO (interlocutorlaw3_FoldRunes.f k a0 a1) (interlocutorlaw3_FoldRunes.f (k + 1) a0 a1) := by
  intro a0 a1 k
  have ih0 := interlocutorlaw3_FoldRunes.mono_l k
  unfold interlocutorlaw3_FoldRunes.f
  repeat' first
      | (with_reducible exact ih0 _ _)
      | (with_reducible exact fold_Rune.mono _ _)
      | (with_reducible exact interlocutorlaw3_known.mono _)
      | (with_reducible exact interlocutorref3_Rune.mono _ _)
      | (with_reducible exact LeO.refl _)
      | (with_reducible exact LeO.none _)
      | (with_reducible refine LeO.ite ?_ ?_)
      | (with_reducible refine LeO.bind ?_ (fun _ => ?_))
      | exact ih0 _ _
      | exact fold_Rune.mono _ _
      | exact interlocutorlaw3_known.mono _
      | exact interlocutorref3_Rune.mono _ _
      | exact LeO.none _
      | refine LeO.ite ?_ ?_
      | refine LeO.bind ?_ (fun _ => ?_)
def interlocutorlaw3_FoldRunes.T4 : Bool × List (List Nat × List Nat) := (true, [([], []), ([], []), ([1], [1]), ([], []), ([], []), ([], []), ([5], [5]), ([4, 6, 2], [4, 6]), ([3, 7], [3, 7]), ([8], [8]), ([], []), ([10, 7], [10]), ([9, 11], [9, 11]), ([12], [12]), ([], []), ([14, 11], [14]), ([0, 2, 13, 15], [0, 2, 13, 15]), ([16, 15, 0, 1, 2, 3, 4, 5, 6, 7, 8, 9, 10, 11, 12, 13, 14, 15, 16], [16])])
def interlocutorlaw3_FoldRunes.B4 : List Nat := [0, 0, 2, 0, 0, 0, 32, 118, 254, 510, 0, 1270, 4094, 8190, 0, 19702, 65535, 131071]
theorem interlocutorlaw3_FoldRunes.tab4 : rtab .any (opsOf Try.f4 4) = interlocutorlaw3_FoldRunes.T4 := by kernel_rfl
theorem interlocutorlaw3_FoldRunes.bits4 : waitsOk interlocutorlaw3_FoldRunes.T4.2 interlocutorlaw3_FoldRunes.B4 = true := by kernel_rfl
set_option maxHeartbeats 8000000 in
set_option maxRecDepth 100000 in
theorem interlocutorlaw3_FoldRunes.calls (k : Nat) (a0 : Int) (a1 : Int) (r : Bool) (w : World) (h : interlocutorlaw3_FoldRunes.f k a0 a1 = some r) :
    Calls Try.prog 4 #[.int .i64 a0, .int .i64 a1] w fun e w' => e = .returned (.bool r) ∧ Below w.heap.size w w' := by
  have HB := Aside0.mk (Below.refl w.heap.size w)
  have H : ((interlocutorlaw3_known.f k).bind fun t260 => (if t260 = true then ((some (([9, 65, 90, 160, 192, 215, 222, 700, 913, 930, 937, 1024, 1039, 1040, 1071, 1632, 1641, 1776, 1785, 2406, 2415, 8192, 8202, 8208, 8213, 8216, 8239, 8287, 8722, 12288, 65281, 65374, 65313, 65338] : List Int) : List Int)).bind fun y261 => ((interlocutorlaw3_within.f a0 69632).bind fun t264 => ((interlocutorlaw3_within.f a1 (y261.length : Int)).bind fun t265 => (if 0 ≤ t265 then (if t265 < (y261.length : Int) then ((interlocutorlaw3_within.f a0 3).bind fun t267 => ((interlocutorlaw3_within.f a0 1280).bind fun t268 => (interlocutorlaw3_FoldRunes.l0 k (([a0, t264, wrap64 ((wrap64 ((rd y261 t265) + t267)) - 1), t268] : List Int)) 0))) else (none)) else (none))))) else (some false))) = some r := h
  clear h
  replace H := Option.bind_eq_some_iff.mp H
  obtain ⟨t260, A30, H⟩ := H
  replace H : (if t260 = true then ((some (([9, 65, 90, 160, 192, 215, 222, 700, 913, 930, 937, 1024, 1039, 1040, 1071, 1632, 1641, 1776, 1785, 2406, 2415, 8192, 8202, 8208, 8213, 8216, 8239, 8287, 8722, 12288, 65281, 65374, 65313, 65338] : List Int) : List Int)).bind fun y261 => ((interlocutorlaw3_within.f a0 69632).bind fun t264 => ((interlocutorlaw3_within.f a1 (y261.length : Int)).bind fun t265 => (if 0 ≤ t265 then (if t265 < (y261.length : Int) then ((interlocutorlaw3_within.f a0 3).bind fun t267 => ((interlocutorlaw3_within.f a0 1280).bind fun t268 => (interlocutorlaw3_FoldRunes.l0 k (([a0, t264, wrap64 ((wrap64 ((rd y261 t265) + t267)) - 1), t268] : List Int)) 0))) else (none)) else (none))))) else (some false)) = some r := H
  have A3 := Aside0.mk A30
  clear A30
  by_cases c4 : t260 = true
  · subst c4
    have H1 : ((some (([9, 65, 90, 160, 192, 215, 222, 700, 913, 930, 937, 1024, 1039, 1040, 1071, 1632, 1641, 1776, 1785, 2406, 2415, 8192, 8202, 8208, 8213, 8216, 8239, 8287, 8722, 12288, 65281, 65374, 65313, 65338] : List Int) : List Int)).bind fun y261 => ((interlocutorlaw3_within.f a0 69632).bind fun t264 => ((interlocutorlaw3_within.f a1 (y261.length : Int)).bind fun t265 => (if 0 ≤ t265 then (if t265 < (y261.length : Int) then ((interlocutorlaw3_within.f a0 3).bind fun t267 => ((interlocutorlaw3_within.f a0 1280).bind fun t268 => (interlocutorlaw3_FoldRunes.l0 k (([a0, t264, wrap64 ((wrap64 ((rd y261 t265) + t267)) - 1), t268] : List Int)) 0))) else (none)) else (none))))) = some r := by rw [if_pos rfl] at H; exact H
    clear H
    have H := H1
    clear H1
    obtain ⟨y261, hy261⟩ : ∃ y_ : List Int, y_ = (([9, 65, 90, 160, 192, 215, 222, 700, 913, 930, 937, 1024, 1039, 1040, 1071, 1632, 1641, 1776, 1785, 2406, 2415, 8192, 8202, 8208, 8213, 8216, 8239, 8287, 8722, 12288, 65281, 65374, 65313, 65338] : List Int)) := ⟨_, rfl⟩
    replace H : ((interlocutorlaw3_within.f a0 69632).bind fun t264 => ((interlocutorlaw3_within.f a1 (y261.length : Int)).bind fun t265 => (if 0 ≤ t265 then (if t265 < (y261.length : Int) then ((interlocutorlaw3_within.f a0 3).bind fun t267 => ((interlocutorlaw3_within.f a0 1280).bind fun t268 => (interlocutorlaw3_FoldRunes.l0 k (([a0, t264, wrap64 ((wrap64 ((rd y261 t265) + t267)) - 1), t268] : List Int)) 0))) else (none)) else (none)))) = some r := by first | (rw [hy261]; with_reducible exact H) | (have H2_ := (Option.bind_some _ _).symm.trans H; rw [hy261]; with_reducible exact H2_) | (have H2_ := (Option.bind_some _ _).symm.trans H; with_reducible exact H2_) | with_reducible exact H | (rw [hy261]; exact H) | exact H
    have Ny261 := Aside0.mk hy261
    clear hy261
    replace H := Option.bind_eq_some_iff.mp H
    obtain ⟨t264, A50, H⟩ := H
    replace H : ((interlocutorlaw3_within.f a1 (y261.length : Int)).bind fun t265 => (if 0 ≤ t265 then (if t265 < (y261.length : Int) then ((interlocutorlaw3_within.f a0 3).bind fun t267 => ((interlocutorlaw3_within.f a0 1280).bind fun t268 => (interlocutorlaw3_FoldRunes.l0 k (([a0, t264, wrap64 ((wrap64 ((rd y261 t265) + t267)) - 1), t268] : List Int)) 0))) else (none)) else (none))) = some r := H
    have A5 := Aside0.mk A50
    clear A50
    replace H := Option.bind_eq_some_iff.mp H
    obtain ⟨t265, A60, H⟩ := H
    replace H : (if 0 ≤ t265 then (if t265 < (y261.length : Int) then ((interlocutorlaw3_within.f a0 3).bind fun t267 => ((interlocutorlaw3_within.f a0 1280).bind fun t268 => (interlocutorlaw3_FoldRunes.l0 k (([a0, t264, wrap64 ((wrap64 ((rd y261 t265) + t267)) - 1), t268] : List Int)) 0))) else (none)) else (none)) = some r := H
    have A6 := Aside0.mk A60
    clear A60
    by_cases c7 : 0 ≤ t265
    · rw [if_pos c7] at H
      have c7b0 : decide (0 ≤ t265) = true := decide_eq_true c7
      clear c7
      by_cases c8 : t265 < (y261.length : Int)
      · rw [if_pos c8] at H
        have c8b0 : decide (t265 < (y261.length : Int)) = true := decide_eq_true c8
        clear c8
        replace H := Option.bind_eq_some_iff.mp H
        obtain ⟨t267, A90, H⟩ := H
        replace H : ((interlocutorlaw3_within.f a0 1280).bind fun t268 => (interlocutorlaw3_FoldRunes.l0 k (([a0, t264, wrap64 ((wrap64 ((rd y261 t265) + t267)) - 1), t268] : List Int)) 0)) = some r := H
        have A9 := Aside0.mk A90
        clear A90
        replace H := Option.bind_eq_some_iff.mp H
        obtain ⟨t268, A100, H⟩ := H
        replace H : (interlocutorlaw3_FoldRunes.l0 k (([a0, t264, wrap64 ((wrap64 ((rd y261 t265) + t267)) - 1), t268] : List Int)) 0) = some r := H
        have A10 := Aside0.mk A100
        clear A100
        obtain ⟨y269, hy269⟩ : ∃ y_ : List Int, y_ = (([a0, t264, wrap64 ((wrap64 ((rd y261 t265) + t267)) - 1), t268] : List Int)) := ⟨_, rfl⟩
        replace H : (interlocutorlaw3_FoldRunes.l0 k y269 0) = some r := by first | (rw [hy269]; with_reducible exact H) | (have H2_ := (Option.bind_some _ _).symm.trans H; rw [hy269]; with_reducible exact H2_) | (have H2_ := (Option.bind_some _ _).symm.trans H; with_reducible exact H2_) | with_reducible exact H | (rw [hy269]; exact H) | exact H
        have Ny269 := Aside0.mk hy269
        clear hy269
        have H' := Aside0.mk H
        clear H
        go_enter Try.func4, Try.ntmps4
        try go_wp2_with (first | ((with_reducible refine gate_callee (f := 14) rfl ?_); refine goesL_ (some 9) rfl rfl Try.func14 (by kernel_rfl) rfl #[] rfl (by (try simp only [List.map_toArray, List.map_cons, List.map_nil]); first | done | rfl | (simp only [List.length_drop, List.length_take]; rfl)) ?_; (with_reducible refine (interlocutorlaw3_known.calls k  true _ A3.out).mono ?_); rintro e w11 ⟨rfl, hb⟩; refine ⟨_, rfl, ?_⟩; have n0_ := Aside0.mk (below_step (by repeat (first | (with_reducible first | exact HB.out | apply below_alloc | apply pw_below_drewN | apply below_drew1) | exact HB.out)) hb); clear HB; have HB := n0_; clear n0_; (try clear hb); (try clear hb2); (try clear hk); (try clear hi)) | ((with_reducible refine gate_dst (N := 11) rfl ?_); refine Kd.R_lit (Kd.int .i64) _ 3 ?hg (N := 11) ?hd (xs := ([9, 65, 90, 160, 192, 215, 222, 700, 913, 930, 937, 1024, 1039, 1040, 1071, 1632, 1641, 1776, 1785, 2406, 2415, 8192, 8202, 8208, 8213, 8216, 8239, 8287, 8722, 12288, 65281, 65374, 65313, 65338] : List Int)) (inner := [.int .i64 9, .int .i64 65, .int .i64 90, .int .i64 160, .int .i64 192, .int .i64 215, .int .i64 222, .int .i64 700, .int .i64 913, .int .i64 930, .int .i64 937, .int .i64 1024, .int .i64 1039, .int .i64 1040, .int .i64 1071, .int .i64 1632, .int .i64 1641, .int .i64 1776, .int .i64 1785, .int .i64 2406, .int .i64 2415, .int .i64 8192, .int .i64 8202, .int .i64 8208, .int .i64 8213, .int .i64 8216, .int .i64 8239, .int .i64 8287, .int .i64 8722, .int .i64 12288, .int .i64 65281, .int .i64 65374, .int .i64 65313, .int .i64 65338]) (ok := fun _ => True) (okp := fun _ => True) ?hr ?hp (fun _ hk => hk) trivial (Below.refl _ _) (Nat.le_refl _) (by simp) ?_; (case hd => rfl); (case hg => rfl); (case hr => first | (go_simp; done) | (go_simp; rfl)); (case hp => exact (Reps.one (show Kd.M (Kd.int .i64) _ _ _ 9 [.int .i64 9] from rfl) (Reps.one (show Kd.M (Kd.int .i64) _ _ _ 65 [.int .i64 65] from rfl) (Reps.one (show Kd.M (Kd.int .i64) _ _ _ 90 [.int .i64 90] from rfl) (Reps.one (show Kd.M (Kd.int .i64) _ _ _ 160 [.int .i64 160] from rfl) (Reps.one (show Kd.M (Kd.int .i64) _ _ _ 192 [.int .i64 192] from rfl) (Reps.one (show Kd.M (Kd.int .i64) _ _ _ 215 [.int .i64 215] from rfl) (Reps.one (show Kd.M (Kd.int .i64) _ _ _ 222 [.int .i64 222] from rfl) (Reps.one (show Kd.M (Kd.int .i64) _ _ _ 700 [.int .i64 700] from rfl) (Reps.one (show Kd.M (Kd.int .i64) _ _ _ 913 [.int .i64 913] from rfl) (Reps.one (show Kd.M (Kd.int .i64) _ _ _ 930 [.int .i64 930] from rfl) (Reps.one (show Kd.M (Kd.int .i64) _ _ _ 937 [.int .i64 937] from rfl) (Reps.one (show Kd.M (Kd.int .i64) _ _ _ 1024 [.int .i64 1024] from rfl) (Reps.one (show Kd.M (Kd.int .i64) _ _ _ 1039 [.int .i64 1039] from rfl) (Reps.one (show Kd.M (Kd.int .i64) _ _ _ 1040 [.int .i64 1040] from rfl) (Reps.one (show Kd.M (Kd.int .i64) _ _ _ 1071 [.int .i64 1071] from rfl) (Reps.one (show Kd.M (Kd.int .i64) _ _ _ 1632 [.int .i64 1632] from rfl) (Reps.one (show Kd.M (Kd.int .i64) _ _ _ 1641 [.int .i64 1641] from rfl) (Reps.one (show Kd.M (Kd.int .i64) _ _ _ 1776 [.int .i64 1776] from rfl) (Reps.one (show Kd.M (Kd.int .i64) _ _ _ 1785 [.int .i64 1785] from rfl) (Reps.one (show Kd.M (Kd.int .i64) _ _ _ 2406 [.int .i64 2406] from rfl) (Reps.one (show Kd.M (Kd.int .i64) _ _ _ 2415 [.int .i64 2415] from rfl) (Reps.one (show Kd.M (Kd.int .i64) _ _ _ 8192 [.int .i64 8192] from rfl) (Reps.one (show Kd.M (Kd.int .i64) _ _ _ 8202 [.int .i64 8202] from rfl) (Reps.one (show Kd.M (Kd.int .i64) _ _ _ 8208 [.int .i64 8208] from rfl) (Reps.one (show Kd.M (Kd.int .i64) _ _ _ 8213 [.int .i64 8213] from rfl) (Reps.one (show Kd.M (Kd.int .i64) _ _ _ 8216 [.int .i64 8216] from rfl) (Reps.one (show Kd.M (Kd.int .i64) _ _ _ 8239 [.int .i64 8239] from rfl) (Reps.one (show Kd.M (Kd.int .i64) _ _ _ 8287 [.int .i64 8287] from rfl) (Reps.one (show Kd.M (Kd.int .i64) _ _ _ 8722 [.int .i64 8722] from rfl) (Reps.one (show Kd.M (Kd.int .i64) _ _ _ 12288 [.int .i64 12288] from rfl) (Reps.one (show Kd.M (Kd.int .i64) _ _ _ 65281 [.int .i64 65281] from rfl) (Reps.one (show Kd.M (Kd.int .i64) _ _ _ 65374 [.int .i64 65374] from rfl) (Reps.one (show Kd.M (Kd.int .i64) _ _ _ 65313 [.int .i64 65313] from rfl) (Reps.one (show Kd.M (Kd.int .i64) _ _ _ 65338 [.int .i64 65338] from rfl) (Reps.none _ _)))))))))))))))))))))))))))))))))))); intro v262 w12 ho13 hb hg_ hnew_; clear hg_ hnew_; (first | rw [← Ny261.out] at ho13 | (simp only [Int.reduceToNat] at ho13; rw [← Ny261.out] at ho13)); have n0_ := Aside0.mk (Kd.R_lower ho13 (below_size (by repeat (first | (with_reducible first | exact HB.out | apply below_alloc | apply pw_below_drewN | apply below_drew1) | exact HB.out)))); have n1_ := Aside0.mk (below_step (by repeat (first | (with_reducible first | exact HB.out | apply below_alloc | apply pw_below_drewN | apply below_drew1) | exact HB.out)) hb); clear HB; have HO263 := n0_; have HB := n1_; clear n0_ n1_; clear hb ho13))
        have n0_ := Aside0.mk (Kd.R_drew HO263.out)
        have n1_ := Aside0.mk (below_drew1 HB.out)
        clear HO263
        clear HB
        have HO263 := n0_
        have HB := n1_
        clear n0_ n1_
        obtain ⟨Ao15, co15, eo15⟩ := Kd.R_slice HO263.out
        (first | subst eo15 | (injection eo15 with f1_ f2_ f3_; have f4_ := f1_.symm; have f5_ := f3_.symm; clear f1_ f2_ f3_; subst f4_; subst f5_))
        have p266 : 0 ≤ (t265 : Int) := of_decide_eq_true (by first | (with_reducible assumption) | assumption)
        have q266 : t265 < (y261.length : Int) := of_decide_eq_true (by first | (with_reducible assumption) | assumption)
        obtain ⟨ad266, e266, hx266_0⟩ := Kd.at_int (Kd.R_reads' HO263.out).2.2 t265 p266 q266
        cases e266
        replace p266 := eq_true p266
        replace q266 := eq_true q266
        refine start_ (n := 18) (S := fun w' => w'.cell? (ad266.add (t265).toNat) = some (.int .i64 (rd y261 t265))) (ds := []) #[false, false, false, false, false, false, false, false, false, false, false, false, false, false, false, false, false, false] (by kernel_rfl) rfl rfl (hx266_0) (fun hHeld => ?_); refine with_tabW interlocutorlaw3_FoldRunes.tab4 interlocutorlaw3_FoldRunes.bits4 (fun HT_ HW_ => ?_)
        generalize w12.drew = w14 at HO263 HB hx266_0 hHeld ⊢
        refine pure_ (i := 0) (N := some 12) (v := ?_) (a' := ?_) #[true, false, false, false, false, false, false, false, false, false, false, false, false, false, false, false, false, false] rfl rfl (any_of HT_.out (by kernel_rfl)) (fun _ _ _ h => h) (Or.inl ⟨by rfl, ?_⟩) ?_ ?_
        rotate_left
        · intro w'
          go_simp
          with_reducible rfl
        rotate_left
        · simp only [Act.put, List.setIfInBounds_toArray, List.set_cons_zero, List.set_cons_succ, i64_w, i32_w]
          rfl
        refine pure_ (i := 1) (N := some 13) (v := ?_) (a' := ?_) #[true, true, false, false, false, false, false, false, false, false, false, false, false, false, false, false, false, false] rfl rfl (any_of HT_.out (by kernel_rfl)) (fun _ _ _ h => h) (Or.inl ⟨by rfl, ?_⟩) ?_ ?_
        rotate_left
        · intro w'
          go_simp
          with_reducible rfl
        rotate_left
        · simp only [Act.put, List.setIfInBounds_toArray, List.set_cons_zero, List.set_cons_succ, i64_w, i32_w]
          rfl
        refine pure_ (i := 3) (N := some 15) (v := ?_) (a' := ?_) #[true, true, false, true, false, false, false, false, false, false, false, false, false, false, false, false, false, false] rfl rfl (any_of HT_.out (by kernel_rfl)) (fun _ _ _ h => h) (Or.inl ⟨by rfl, ?_⟩) ?_ ?_
        rotate_left
        · intro w'
          go_simp
          with_reducible rfl
        rotate_left
        · simp only [Act.put, List.setIfInBounds_toArray, List.set_cons_zero, List.set_cons_succ, i64_w, i32_w]
          rfl
        refine pure_ (i := 4) (N := some 16) (v := ?_) (a' := ?_) #[true, true, false, true, true, false, false, false, false, false, false, false, false, false, false, false, false, false] rfl rfl (any_of HT_.out (by kernel_rfl)) (fun _ _ _ h => h) (Or.inl ⟨by rfl, ?_⟩) ?_ ?_
        rotate_left
        · intro w'
          go_simp
          with_reducible rfl
        rotate_left
        · simp only [Act.put, List.setIfInBounds_toArray, List.set_cons_zero, List.set_cons_succ, i64_w, i32_w]
          rfl
        refine pure_ (i := 5) (N := some 17) (v := ?_) (a' := ?_) #[true, true, false, true, true, true, false, false, false, false, false, false, false, false, false, false, false, false] rfl rfl (any_of HT_.out (by kernel_rfl)) (fun _ _ _ h => h) (Or.inl ⟨by rfl, ?_⟩) ?_ ?_
        rotate_left
        · intro w'
          go_simp
          with_reducible rfl
        rotate_left
        · simp only [Act.put, List.setIfInBounds_toArray, List.set_cons_zero, List.set_cons_succ, i64_w, i32_w]
          rfl
        refine pure_ (i := 6) (N := some 18) (v := ?_) (a' := ?_) #[true, true, false, true, true, true, true, false, false, false, false, false, false, false, false, false, false, false] rfl rfl (any_of HT_.out (by kernel_rfl)) (fun _ _ _ h => h) (Or.inl ⟨by rfl, ?_⟩) ?_ ?_
        rotate_left
        · intro w'
          go_simp
          with_reducible rfl
        rotate_left
        · simp only [Act.put, List.setIfInBounds_toArray, List.set_cons_zero, List.set_cons_succ, i64_w, i32_w]
          rfl
        refine pure_ (i := 10) (N := some 22) (v := ?_) (a' := ?_) #[true, true, false, true, true, true, true, false, false, false, true, false, false, false, false, false, false, false] rfl rfl (any_of HT_.out (by kernel_rfl)) (fun _ _ _ h => h) (Or.inl ⟨by rfl, ?_⟩) ?_ ?_
        rotate_left
        · intro w'
          go_simp
          with_reducible rfl
        rotate_left
        · simp only [Act.put, List.setIfInBounds_toArray, List.set_cons_zero, List.set_cons_succ, i64_w, i32_w]
          rfl
        refine pure_ (i := 14) (N := some 26) (v := ?_) (a' := ?_) #[true, true, false, true, true, true, true, false, false, false, true, false, false, false, true, false, false, false] rfl rfl (any_of HT_.out (by kernel_rfl)) (fun _ _ _ h => h) (Or.inl ⟨by rfl, ?_⟩) ?_ ?_
        rotate_left
        · intro w'
          go_simp
          with_reducible rfl
        rotate_left
        · simp only [Act.put, List.setIfInBounds_toArray, List.set_cons_zero, List.set_cons_succ, i64_w, i32_w]
          rfl
        refine one_ (i := 2) (N := some 14) #[true, true, true, true, true, true, true, false, false, false, true, false, false, false, true, false, false, false] rfl rfl (one_of HT_.out (by kernel_rfl)) (by decide) (fun K hK => ?_)
        refine goes_ Try.func21 (by kernel_rfl) rfl #[.int .i64 a0, .int .i64 69632] (by rfl) rfl rfl (by (try simp only [List.map_toArray, List.map_cons, List.map_nil]); first | done | rfl | (simp only [List.length_drop, List.length_take]; rfl)) ?_
        with_reducible refine (interlocutorlaw3_within.calls a0 69632 t264 _ A5.out).mono ?_
        rintro e w' ⟨rfl, ⟨nd, rfl⟩⟩
        refine ⟨_, rfl, ?_⟩
        refine hK.out _ _ (hHeld) (fun hHeld => ?_)
        clear hK K
        refine norm_ (a' := ?_) ?_ ?_
        rotate_left
        · show Act.put _ (some 14) _ = _
          simp only [Act.put, List.setIfInBounds_toArray, List.set_cons_zero, List.set_cons_succ, i64_w, i32_w]
          rfl
        refine one_ (i := 7) (N := some 19) #[true, true, true, true, true, true, true, true, false, false, true, false, false, false, true, false, false, false] rfl rfl (one_of HT_.out (by kernel_rfl)) (by decide) (fun K hK => ?_)
        refine goes_ Try.func21 (by kernel_rfl) rfl #[.int .i64 a1, .int .i64 (y261.length : Int)] (by rfl) rfl rfl (by (try simp only [List.map_toArray, List.map_cons, List.map_nil]); first | done | rfl | (simp only [List.length_drop, List.length_take]; rfl)) ?_
        with_reducible refine (interlocutorlaw3_within.calls a1 (y261.length : Int) t265 _ A6.out).mono ?_
        rintro e w' ⟨rfl, ⟨nd, rfl⟩⟩
        refine ⟨_, rfl, ?_⟩
        refine hK.out _ _ (hHeld) (fun hHeld => ?_)
        clear hK K
        refine norm_ (a' := ?_) ?_ ?_
        rotate_left
        · show Act.put _ (some 19) _ = _
          simp only [Act.put, List.setIfInBounds_toArray, List.set_cons_zero, List.set_cons_succ, i64_w, i32_w]
          rfl
        refine pure_ (i := 8) (N := some 20) (v := ?_) (a' := ?_) #[true, true, true, true, true, true, true, true, true, false, true, false, false, false, true, false, false, false] rfl rfl (any_of HT_.out (by kernel_rfl)) (fun _ _ _ h => h) (Or.inl ⟨by rfl, ?_⟩) ?_ ?_
        rotate_left
        · intro w'
          go_simp
          with_reducible rfl
        rotate_left
        · simp only [Act.put, List.setIfInBounds_toArray, List.set_cons_zero, List.set_cons_succ, i64_w, i32_w]
          rfl
        refine take_ (i := 9) (N := some 21) (v := ?_) (a' := ?_) #[true, true, true, true, true, true, true, true, true, true, true, false, false, false, true, false, false, false] rfl rfl (take_ofW HT_.out HW_.out (by kernel_rfl)) (fun _ _ _ h => h) (Or.inl ⟨by rfl, ?_⟩) hHeld ?_ ?_
        rotate_left
        · intro w' s0
          go_simp
          with_reducible rfl
        rotate_left
        · simp only [Act.put, List.setIfInBounds_toArray, List.set_cons_zero, List.set_cons_succ, i64_w, i32_w]
          rfl
        refine one_ (i := 11) (N := some 23) #[true, true, true, true, true, true, true, true, true, true, true, true, false, false, true, false, false, false] rfl rfl (one_of HT_.out (by kernel_rfl)) (by decide) (fun K hK => ?_)
        refine goes_ Try.func21 (by kernel_rfl) rfl #[.int .i64 a0, .int .i64 3] (by rfl) rfl rfl (by (try simp only [List.map_toArray, List.map_cons, List.map_nil]); first | done | rfl | (simp only [List.length_drop, List.length_take]; rfl)) ?_
        with_reducible refine (interlocutorlaw3_within.calls a0 3 t267 _ A9.out).mono ?_
        rintro e w' ⟨rfl, ⟨nd, rfl⟩⟩
        refine ⟨_, rfl, ?_⟩
        refine hK.out _ _ (hHeld) (fun hHeld => ?_)
        clear hK K
        refine norm_ (a' := ?_) ?_ ?_
        rotate_left
        · show Act.put _ (some 23) _ = _
          simp only [Act.put, List.setIfInBounds_toArray, List.set_cons_zero, List.set_cons_succ, i64_w, i32_w]
          rfl
        refine pure_ (i := 12) (N := some 24) (v := ?_) (a' := ?_) #[true, true, true, true, true, true, true, true, true, true, true, true, true, false, true, false, false, false] rfl rfl (any_of HT_.out (by kernel_rfl)) (fun _ _ _ h => h) (Or.inl ⟨by rfl, ?_⟩) ?_ ?_
        rotate_left
        · intro w'
          go_simp
          with_reducible rfl
        rotate_left
        · simp only [Act.put, List.setIfInBounds_toArray, List.set_cons_zero, List.set_cons_succ, i64_w, i32_w]
          rfl
        refine pure_ (i := 13) (N := some 25) (v := ?_) (a' := ?_) #[true, true, true, true, true, true, true, true, true, true, true, true, true, true, true, false, false, false] rfl rfl (any_of HT_.out (by kernel_rfl)) (fun _ _ _ h => h) (Or.inl ⟨by rfl, ?_⟩) ?_ ?_
        rotate_left
        · intro w'
          go_simp
          with_reducible rfl
        rotate_left
        · simp only [Act.put, List.setIfInBounds_toArray, List.set_cons_zero, List.set_cons_succ, i64_w, i32_w]
          rfl
        refine one_ (i := 15) (N := some 27) #[true, true, true, true, true, true, true, true, true, true, true, true, true, true, true, true, false, false] rfl rfl (one_of HT_.out (by kernel_rfl)) (by decide) (fun K hK => ?_)
        refine goes_ Try.func21 (by kernel_rfl) rfl #[.int .i64 a0, .int .i64 1280] (by rfl) rfl rfl (by (try simp only [List.map_toArray, List.map_cons, List.map_nil]); first | done | rfl | (simp only [List.length_drop, List.length_take]; rfl)) ?_
        with_reducible refine (interlocutorlaw3_within.calls a0 1280 t268 _ A10.out).mono ?_
        rintro e w' ⟨rfl, ⟨nd, rfl⟩⟩
        refine ⟨_, rfl, ?_⟩
        refine hK.out _ _ (hHeld) (fun hHeld => ?_)
        clear hK K
        refine norm_ (a' := ?_) ?_ ?_
        rotate_left
        · show Act.put _ (some 27) _ = _
          simp only [Act.put, List.setIfInBounds_toArray, List.set_cons_zero, List.set_cons_succ, i64_w, i32_w]
          rfl
        refine one_ (i := 16) (N := some 28) #[true, true, true, true, true, true, true, true, true, true, true, true, true, true, true, true, true, false] rfl rfl (one_of HT_.out (by kernel_rfl)) (by decide) (fun K hK => ?_)
        refine Kd.R_lit_step (Kd.int .i64) _ 3 ?hg (N := 28) ?hd (xs := ([a0, t264, wrap64 ((wrap64 ((rd y261 t265) + t267)) - 1), t268] : List Int)) (inner := [.int .i64 a0, .int .i64 t264, .int .i64 (wrap64 ((wrap64 ((rd y261 t265) + t267)) - 1)), .int .i64 t268]) (ok := fun _ => True) (okp := fun _ => True) ?hr ?hp (fun _ hk => hk) trivial (Below.refl _ _) (Nat.le_refl _) (by simp) ?_; (case hd => rfl); (case hg => rfl); (case hr => first | (go_simp; done) | (go_simp; rfl)); (case hp => exact (Reps.one (show Kd.M (Kd.int .i64) _ _ _ a0 [.int .i64 a0] from rfl) (Reps.one (show Kd.M (Kd.int .i64) _ _ _ t264 [.int .i64 t264] from rfl) (Reps.one (show Kd.M (Kd.int .i64) _ _ _ (wrap64 ((wrap64 ((rd y261 t265) + t267)) - 1)) [.int .i64 (wrap64 ((wrap64 ((rd y261 t265) + t267)) - 1))] from rfl) (Reps.one (show Kd.M (Kd.int .i64) _ _ _ t268 [.int .i64 t268] from rfl) (Reps.none _ _))))))
        intro v270 w16 ho17 hb hg_ hnew_
        have HS0_ := (hb.cell (World.block_lt_of_cell? _ _ (hHeld))).trans (hHeld)
        clear hg_ hnew_
        (first | rw [← Ny269.out] at ho17 | (simp only [Int.reduceToNat] at ho17; rw [← Ny269.out] at ho17))
        have n0_ := Aside0.mk (Kd.R_elder' (by (with_reducible repeat (first | apply Kd.R_alloc | apply Kd.R_drewN | apply Kd.R_drew)); exact HO263.out) (Kd.R_base ho17) hb)
        have n1_ := Aside0.mk (Kd.R_lower (Kd.R_new' ho17 (Kd.R_lt (by (with_reducible repeat (first | apply Kd.R_alloc | apply Kd.R_drewN | apply Kd.R_drew)); exact HO263.out))) (below_size (by repeat (first | (with_reducible first | exact HB.out | apply below_alloc | apply pw_below_drewN | apply below_drew1) | exact HB.out))))
        have n2_ := Aside0.mk (below_step (by repeat (first | (with_reducible first | exact HB.out | apply below_alloc | apply pw_below_drewN | apply below_drew1) | exact HB.out)) hb)
        clear HO263
        clear HB
        have HO263 := n0_
        have HO271 := n1_
        have HB := n2_
        clear n0_ n1_ n2_
        clear hb ho17
        refine hK.out _ _ (HS0_) (fun hHeld => ?_)
        clear hK K
        refine norm_ (a' := ?_) ?_ ?_
        rotate_left
        · show Act.put _ (some 28) _ = _
          simp only [Act.put, List.setIfInBounds_toArray, List.set_cons_zero, List.set_cons_succ, i64_w, i32_w]
          rfl
        refine pure_ (i := 17) (N := some 6) (v := ?_) (a' := ?_) #[true, true, true, true, true, true, true, true, true, true, true, true, true, true, true, true, true, true] rfl rfl (any_of HT_.out (by kernel_rfl)) (fun _ _ _ h => h) (Or.inl ⟨by rfl, ?_⟩) ?_ ?_
        rotate_left
        · intro w'
          go_simp
          with_reducible rfl
        rotate_left
        · simp only [Act.put, List.setIfInBounds_toArray, List.set_cons_zero, List.set_cons_succ, i64_w, i32_w]
          rfl
        refine done_ (done_of HT_.out (by kernel_rfl)) ?_
        try go_wp2
        go_loopg [7] k (fun kq v7 w' => ∃ (x7_1 : Int), v7 = .int .i64 x7_1 ∧ Aside0 (interlocutorlaw3_FoldRunes.l0 kq y269 x7_1 = some r) ∧ Aside0 (kq ≤ k) ∧ Aside0 (Kd.R (Kd.int .i64) 3 w' w.heap.size (fun _ => True) v270 y269) ∧ Aside0 (Below w.heap.size w w'))
        case atStart => exact ⟨(0), (by first | rfl | (simp; done) | (simp [*]; done)), H', ⟨Nat.le_refl _⟩, ⟨by (with_reducible repeat (first | apply Kd.R_alloc | apply Kd.R_drewN | apply Kd.R_drew)); exact Kd.R_mono HO271.out (fun _ hk => trivial)⟩, ⟨by repeat (first | (with_reducible first | exact HB.out | apply below_alloc | apply pw_below_drewN | apply below_drew1) | exact HB.out)⟩⟩
        case round =>
          clear H'
          try clear c1
          try clear c2
          try clear p2
          try clear q2
          try clear hx2
          try clear c4
          try clear p6
          try clear c7
          try clear c7b0
          try clear c8
          try clear c8b0
          try clear c14
          try clear hx266_0
          try clear p266
          try clear q266
          obtain ⟨x7_1, rfl, HA, HK1, HO_6, HB⟩ := hrel
          cases gk with
          | zero => exact absurd HA.out (by simp [interlocutorlaw3_FoldRunes.l0])
          | succ k1 =>
            have H := HA.out
            clear HA
            simp only [interlocutorlaw3_FoldRunes.l0] at H
            by_cases c18 : x7_1 < (y269.length : Int)
            · rw [if_pos c18] at H
              have c18b0 : decide (x7_1 < (y269.length : Int)) = true := decide_eq_true c18
              clear c18
              by_cases c19 : 0 ≤ x7_1
              · rw [if_pos c19] at H
                have c19b0 : decide (0 ≤ x7_1) = true := decide_eq_true c19
                clear c19
                replace H := Option.bind_eq_some_iff.mp H
                obtain ⟨t273, A200, H⟩ := H
                replace H : ((interlocutorref3_Rune.f k1 (rd y269 x7_1)).bind fun t275 => (if t273 = t275 then ((fold_Rune.f k1 t273).bind fun t276 => (if t276 = t273 then (interlocutorlaw3_FoldRunes.l0 k1 y269 (wrap64 (x7_1 + 1))) else (some false))) else (some false))) = some r := H
                have A20 := Aside0.mk A200
                clear A200
                replace H := Option.bind_eq_some_iff.mp H
                obtain ⟨t275, A210, H⟩ := H
                replace H : (if t273 = t275 then ((fold_Rune.f k1 t273).bind fun t276 => (if t276 = t273 then (interlocutorlaw3_FoldRunes.l0 k1 y269 (wrap64 (x7_1 + 1))) else (some false))) else (some false)) = some r := H
                have A21 := Aside0.mk A210
                clear A210
                by_cases c22 : t273 = t275
                · rw [if_pos c22] at H
                  have c22b0 : (t273 == t275) = true := beq_iff_eq.mpr c22
                  have c22b1 : (t273 != t275) = false := bne_eq_false_iff_eq.mpr c22
                  clear c22
                  replace H := Option.bind_eq_some_iff.mp H
                  obtain ⟨t276, A230, H⟩ := H
                  replace H : (if t276 = t273 then (interlocutorlaw3_FoldRunes.l0 k1 y269 (wrap64 (x7_1 + 1))) else (some false)) = some r := H
                  have A23 := Aside0.mk A230
                  clear A230
                  by_cases c24 : t276 = t273
                  · rw [if_pos c24] at H
                    have c24b0 : (t276 == t273) = true := beq_iff_eq.mpr c24
                    have c24b1 : (t276 != t273) = false := bne_eq_false_iff_eq.mpr c24
                    clear c24
                    have H' := Aside0.mk H
                    clear H
                    obtain ⟨Ao25, co25, eo25⟩ := Kd.R_slice HO_6.out
                    subst eo25
                    have p272 : 0 ≤ (x7_1 : Int) := of_decide_eq_true (by first | (with_reducible assumption) | assumption)
                    have q272 : x7_1 < (y269.length : Int) := of_decide_eq_true (by first | (with_reducible assumption) | assumption)
                    obtain ⟨ad272, e272, hx272_0⟩ := Kd.at_int (Kd.R_reads' HO_6.out).2.2 x7_1 p272 q272
                    cases e272
                    replace p272 := eq_true p272
                    replace q272 := eq_true q272
                    go_wp2_with (first | ((with_reducible refine gate_callee (f := 22) rfl ?_); refine goesL_ (some 39) rfl rfl Try.func22 (by kernel_rfl) rfl #[.int .i64 (rd y269 x7_1)] rfl (by (try simp only [List.map_toArray, List.map_cons, List.map_nil]); first | done | rfl | (simp only [List.length_drop, List.length_take]; rfl)) ?_; (with_reducible refine (fold_Rune.calls k1 (rd y269 x7_1) t273 _ A20.out).mono ?_); rintro e w26 ⟨rfl, hb⟩; refine ⟨_, rfl, ?_⟩; have n0_ := Aside0.mk (Kd.R_below (by (with_reducible repeat (first | apply Kd.R_alloc | apply Kd.R_drewN | apply Kd.R_drew)); exact HO_6.out) hb); have n1_ := Aside0.mk (below_step (by repeat (first | (with_reducible first | exact HB.out | apply below_alloc | apply pw_below_drewN | apply below_drew1) | exact HB.out)) hb); clear HO_6; clear HB; have HO_6 := n0_; have HB := n1_; clear n0_ n1_; (try clear hb); (try clear hb2); (try clear hk); (try clear hi); have p274 : 0 ≤ (x7_1 : Int) := of_decide_eq_true (by first | (with_reducible assumption) | assumption); have q274 : x7_1 < (y269.length : Int) := of_decide_eq_true (by first | (with_reducible assumption) | assumption); obtain ⟨ad274, e274, hx274_0⟩ := Kd.at_int (Kd.R_reads' HO_6.out).2.2 x7_1 p274 q274; obtain rfl : ad272 = ad274 := (by injection e274); replace p274 := eq_true p274; replace q274 := eq_true q274) | ((with_reducible refine gate_callee (f := 23) rfl ?_); refine goesL_ (some 45) rfl rfl Try.func23 (by kernel_rfl) rfl #[.int .i64 (rd y269 x7_1)] rfl (by (try simp only [List.map_toArray, List.map_cons, List.map_nil]); first | done | rfl | (simp only [List.length_drop, List.length_take]; rfl)) ?_; (with_reducible refine (interlocutorref3_Rune.calls k1 (rd y269 x7_1) t275 _ A21.out).mono ?_); rintro e w' ⟨rfl, ⟨nd, rfl⟩⟩; refine ⟨_, rfl, ?_⟩) | (go_at_call 22; (with_reducible refine (fold_Rune.calls k1 t273 t276 _ A23.out).mono ?_); rintro e w27 ⟨rfl, hb⟩; have n0_ := Aside0.mk (Kd.R_below (by (with_reducible repeat (first | apply Kd.R_alloc | apply Kd.R_drewN | apply Kd.R_drew)); exact HO_6.out) hb); have n1_ := Aside0.mk (below_step (by repeat (first | (with_reducible first | exact HB.out | apply below_alloc | apply pw_below_drewN | apply below_drew1) | exact HB.out)) hb); clear HO_6; clear HB; have HO_6 := n0_; have HB := n1_; clear n0_ n1_; (try clear hb); (try clear hb2); (try clear hk); (try clear hi)))
                    go_roundg k1
                    case measure => have := HK1.out; omega
                    case rel => exact ⟨(wrap64 (x7_1 + 1)), (by first | rfl | (simp; done) | (simp [*]; done)), H', ⟨by have := HK1.out; omega⟩, ⟨by (with_reducible repeat (first | apply Kd.R_alloc | apply Kd.R_drewN | apply Kd.R_drew)); exact HO_6.out⟩, ⟨by repeat (first | (with_reducible first | exact HB.out | apply below_alloc | apply pw_below_drewN | apply below_drew1) | exact HB.out)⟩⟩
                  · rw [if_neg c24] at H
                    have c24b0 : (t276 == t273) = false := beq_eq_false_iff_ne.mpr c24
                    have c24b1 : (t276 != t273) = true := bne_iff_ne.mpr c24
                    obtain rfl := Option.some.inj H
                    obtain ⟨Ao28, co28, eo28⟩ := Kd.R_slice HO_6.out
                    subst eo28
                    have p272 : 0 ≤ (x7_1 : Int) := of_decide_eq_true (by first | (with_reducible assumption) | assumption)
                    have q272 : x7_1 < (y269.length : Int) := of_decide_eq_true (by first | (with_reducible assumption) | assumption)
                    obtain ⟨ad272, e272, hx272_0⟩ := Kd.at_int (Kd.R_reads' HO_6.out).2.2 x7_1 p272 q272
                    cases e272
                    replace p272 := eq_true p272
                    replace q272 := eq_true q272
                    go_wp2_with (first | ((with_reducible refine gate_callee (f := 22) rfl ?_); refine goesL_ (some 39) rfl rfl Try.func22 (by kernel_rfl) rfl #[.int .i64 (rd y269 x7_1)] rfl (by (try simp only [List.map_toArray, List.map_cons, List.map_nil]); first | done | rfl | (simp only [List.length_drop, List.length_take]; rfl)) ?_; (with_reducible refine (fold_Rune.calls k1 (rd y269 x7_1) t273 _ A20.out).mono ?_); rintro e w29 ⟨rfl, hb⟩; refine ⟨_, rfl, ?_⟩; have n0_ := Aside0.mk (Kd.R_below (by (with_reducible repeat (first | apply Kd.R_alloc | apply Kd.R_drewN | apply Kd.R_drew)); exact HO_6.out) hb); have n1_ := Aside0.mk (below_step (by repeat (first | (with_reducible first | exact HB.out | apply below_alloc | apply pw_below_drewN | apply below_drew1) | exact HB.out)) hb); clear HO_6; clear HB; have HO_6 := n0_; have HB := n1_; clear n0_ n1_; (try clear hb); (try clear hb2); (try clear hk); (try clear hi); have p274 : 0 ≤ (x7_1 : Int) := of_decide_eq_true (by first | (with_reducible assumption) | assumption); have q274 : x7_1 < (y269.length : Int) := of_decide_eq_true (by first | (with_reducible assumption) | assumption); obtain ⟨ad274, e274, hx274_0⟩ := Kd.at_int (Kd.R_reads' HO_6.out).2.2 x7_1 p274 q274; obtain rfl : ad272 = ad274 := (by injection e274); replace p274 := eq_true p274; replace q274 := eq_true q274) | ((with_reducible refine gate_callee (f := 23) rfl ?_); refine goesL_ (some 45) rfl rfl Try.func23 (by kernel_rfl) rfl #[.int .i64 (rd y269 x7_1)] rfl (by (try simp only [List.map_toArray, List.map_cons, List.map_nil]); first | done | rfl | (simp only [List.length_drop, List.length_take]; rfl)) ?_; (with_reducible refine (interlocutorref3_Rune.calls k1 (rd y269 x7_1) t275 _ A21.out).mono ?_); rintro e w' ⟨rfl, ⟨nd, rfl⟩⟩; refine ⟨_, rfl, ?_⟩) | (go_at_call 22; (with_reducible refine (fold_Rune.calls k1 t273 t276 _ A23.out).mono ?_); rintro e w30 ⟨rfl, hb⟩; have n0_ := Aside0.mk (Kd.R_below (by (with_reducible repeat (first | apply Kd.R_alloc | apply Kd.R_drewN | apply Kd.R_drew)); exact HO_6.out) hb); have n1_ := Aside0.mk (below_step (by repeat (first | (with_reducible first | exact HB.out | apply below_alloc | apply pw_below_drewN | apply below_drew1) | exact HB.out)) hb); clear HO_6; clear HB; have HO_6 := n0_; have HB := n1_; clear n0_ n1_; (try clear hb); (try clear hb2); (try clear hk); (try clear hi)))
                    go_ret
                    exact ⟨by first | rfl | (simp [errW_none, errW_some] <;> rfl) | (simp [*, errW_none, errW_some] <;> rfl), by repeat (first | (with_reducible first | exact HB.out | apply below_alloc | apply pw_below_drewN | apply below_drew1) | exact HB.out)⟩
                · rw [if_neg c22] at H
                  have c22b0 : (t273 == t275) = false := beq_eq_false_iff_ne.mpr c22
                  have c22b1 : (t273 != t275) = true := bne_iff_ne.mpr c22
                  obtain rfl := Option.some.inj H
                  obtain ⟨Ao31, co31, eo31⟩ := Kd.R_slice HO_6.out
                  subst eo31
                  have p272 : 0 ≤ (x7_1 : Int) := of_decide_eq_true (by first | (with_reducible assumption) | assumption)
                  have q272 : x7_1 < (y269.length : Int) := of_decide_eq_true (by first | (with_reducible assumption) | assumption)
                  obtain ⟨ad272, e272, hx272_0⟩ := Kd.at_int (Kd.R_reads' HO_6.out).2.2 x7_1 p272 q272
                  cases e272
                  replace p272 := eq_true p272
                  replace q272 := eq_true q272
                  go_wp2_with (first | ((with_reducible refine gate_callee (f := 22) rfl ?_); refine goesL_ (some 39) rfl rfl Try.func22 (by kernel_rfl) rfl #[.int .i64 (rd y269 x7_1)] rfl (by (try simp only [List.map_toArray, List.map_cons, List.map_nil]); first | done | rfl | (simp only [List.length_drop, List.length_take]; rfl)) ?_; (with_reducible refine (fold_Rune.calls k1 (rd y269 x7_1) t273 _ A20.out).mono ?_); rintro e w32 ⟨rfl, hb⟩; refine ⟨_, rfl, ?_⟩; have n0_ := Aside0.mk (Kd.R_below (by (with_reducible repeat (first | apply Kd.R_alloc | apply Kd.R_drewN | apply Kd.R_drew)); exact HO_6.out) hb); have n1_ := Aside0.mk (below_step (by repeat (first | (with_reducible first | exact HB.out | apply below_alloc | apply pw_below_drewN | apply below_drew1) | exact HB.out)) hb); clear HO_6; clear HB; have HO_6 := n0_; have HB := n1_; clear n0_ n1_; (try clear hb); (try clear hb2); (try clear hk); (try clear hi); have p274 : 0 ≤ (x7_1 : Int) := of_decide_eq_true (by first | (with_reducible assumption) | assumption); have q274 : x7_1 < (y269.length : Int) := of_decide_eq_true (by first | (with_reducible assumption) | assumption); obtain ⟨ad274, e274, hx274_0⟩ := Kd.at_int (Kd.R_reads' HO_6.out).2.2 x7_1 p274 q274; obtain rfl : ad272 = ad274 := (by injection e274); replace p274 := eq_true p274; replace q274 := eq_true q274) | ((with_reducible refine gate_callee (f := 23) rfl ?_); refine goesL_ (some 45) rfl rfl Try.func23 (by kernel_rfl) rfl #[.int .i64 (rd y269 x7_1)] rfl (by (try simp only [List.map_toArray, List.map_cons, List.map_nil]); first | done | rfl | (simp only [List.length_drop, List.length_take]; rfl)) ?_; (with_reducible refine (interlocutorref3_Rune.calls k1 (rd y269 x7_1) t275 _ A21.out).mono ?_); rintro e w' ⟨rfl, ⟨nd, rfl⟩⟩; refine ⟨_, rfl, ?_⟩))
                  go_ret
                  exact ⟨by first | rfl | (simp [errW_none, errW_some] <;> rfl) | (simp [*, errW_none, errW_some] <;> rfl), by repeat (first | (with_reducible first | exact HB.out | apply below_alloc | apply pw_below_drewN | apply below_drew1) | exact HB.out)⟩
              · rw [if_neg c19] at H
                exact absurd H (by simp)
            · rw [if_neg c18] at H
              have c18b0 : decide (x7_1 < (y269.length : Int)) = false := decide_eq_false c18
              clear c18
              obtain rfl := Option.some.inj H
              obtain ⟨Ao33, co33, eo33⟩ := Kd.R_slice HO_6.out
              subst eo33
              go_wp2
              go_ret
              exact ⟨by first | rfl | (simp [errW_none, errW_some] <;> rfl) | (simp [*, errW_none, errW_some] <;> rfl), by repeat (first | (with_reducible first | exact HB.out | apply below_alloc | apply pw_below_drewN | apply below_drew1) | exact HB.out)⟩
      · rw [if_neg c8] at H
        exact absurd H (by simp)
    · rw [if_neg c7] at H
      exact absurd H (by simp)
  · replace c4 := Bool.eq_false_iff.mpr c4
    subst c4
    have H1 : (some false) = some r := by rw [if_neg (show ¬ (false = true) by decide)] at H; exact H
    clear H
    have H := H1
    clear H1
    obtain rfl := Option.some.inj H
    go_enter Try.func4, Try.ntmps4
    go_wp2_with (first | ((with_reducible refine gate_callee (f := 14) rfl ?_); refine goesL_ (some 9) rfl rfl Try.func14 (by kernel_rfl) rfl #[] rfl (by (try simp only [List.map_toArray, List.map_cons, List.map_nil]); first | done | rfl | (simp only [List.length_drop, List.length_take]; rfl)) ?_; (with_reducible refine (interlocutorlaw3_known.calls k  false _ A3.out).mono ?_); rintro e w34 ⟨rfl, hb⟩; refine ⟨_, rfl, ?_⟩; have n0_ := Aside0.mk (below_step (by repeat (first | (with_reducible first | exact HB.out | apply below_alloc | apply pw_below_drewN | apply below_drew1) | exact HB.out)) hb); clear HB; have HB := n0_; clear n0_; (try clear hb); (try clear hb2); (try clear hk); (try clear hi)))
    go_ret
    exact ⟨by first | rfl | (simp [errW_none, errW_some] <;> rfl) | (simp [*, errW_none, errW_some] <;> rfl), by repeat (first | (with_reducible first | exact HB.out | apply below_alloc | apply pw_below_drewN | apply below_drew1) | exact HB.out)⟩

/-- THE ONE PURE STATEMENT of interlocutorlaw3_FoldRunes: yours. -/
def interlocutorlaw3_FoldRunes.Pure : Prop := ∀ (a0 : Int) (a1 : Int), (Lit.int .i64 a0).wf = true → (Lit.int .i64 a1).wf = true → ∃ k, interlocutorlaw3_FoldRunes.f k a0 a1 = some true
theorem interlocutorlaw3_FoldRunes.walk (P : interlocutorlaw3_FoldRunes.Pure) (a0 : Int) (a1 : Int) (w : World) (w0 : (Lit.int .i64 a0).wf = true) (w1 : (Lit.int .i64 a1).wf = true) :
    Calls Try.prog 4 #[.int .i64 a0, .int .i64 a1] w fun e w' => e = .returned (.bool true) ∧ Below w.heap.size w w' := by
  obtain ⟨k, h⟩ := P a0 a1 w0 w1
  refine (interlocutorlaw3_FoldRunes.calls k a0 a1 true w h).mono ?_
  rintro e w' ⟨rfl, hd⟩
  exact ⟨rfl, hd⟩

end Go.Proofs.Ytmpmjghhikdefaa.G
